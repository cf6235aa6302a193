/-
  Part 8 of the texts. Conditions: none.
-/
import Derived.Test.YtcgnojefbalbbaaDoorPrP7
namespace Go.Proofs.YtcgnojefbalbbaaDoor
open Go Go.RowKit
set_option linter.unusedVariables false
set_option linter.unusedSimpArgs false
set_option maxHeartbeats 16000000
theorem Hr (es : List (Int × Int)) (n d : Int) : ∀ {x : List Lm} {k : Nat} {a : Lm} (i : Int), x[k]? = some a → Bx es n d i (x.take (k + 1)) = Bx es n d i (x.take k) ++ (if (BH es n d a.idx).2 = true then [i + k] else [])
 | [], _, _, _, h => by simp at h
 | x :: xs, 0, a, i, h1 => by
  simp only [List.getElem?_cons_zero, Option.some.injEq] at h1
  subst h1
  simp [Bx]
 | x :: xs, k + 1, a, i, h1 => by
  rw [List.getElem?_cons_succ] at h1
  have ih := Hr es n d (i + 1) h1
  have e : i + 1 + (k : Int) = i + ((k + 1 : Nat) : Int) := by omega
  rw [e] at ih
  rw [List.take_succ_cons, List.take_succ_cons, Bx, Bx, ih]
  split <;> simp
theorem IP (es : List (Int × Int)) (n d : Int) : ∀ {x : List Lm} {i j : Int}, j ∈ Bx es n d i x → i ≤ j ∧ j < i + x.length
 | [], _, _, h => by simp [Bx] at h
 | x :: xs, i, j, h => by
  unfold Bx at h
  have ih := @IP es n d xs (i + 1) j
  simp only [List.length_cons]
  split at h
  ·rcases List.mem_cons.1 h with rfl | h
   ·omega
   ·have := ih h; omega
  ·have := ih h; omega
theorem Fy (es : List (Int × Int)) (n d : Int) : ∀ (x : List Lm) (i : Int), (Bx es n d i x).length ≤ x.length
 | [], _ => by simp [Bx]
 | x :: xs, i => by
  unfold Bx
  have ih := Fy es n d xs (i + 1)
  split <;> simp only [List.length_cons] <;> omega
abbrev PM : AC := .fn 74 [.ptr 11 1 0 0, .ptr 8 1 0 0, .ptr 9 1 0 0]
abbrev HH : AI := .box 24 [.st (.int .i64 0), .st (.int .i64 0), .full []]
structure Cr (U : AA) (M : Nat) (m n d : Int) (t h : Lm) (w : List Lm) (s : AS) : Prop where
 e0 : s.env 0 = .one (.ptr 2023 1 0 0)
 e1 : s.env 1 = AK m
 e8 : s.env 8 = .one (.ptr 8 1 0 0)
 e9 : s.env 9 = .one (.ptr 9 1 0 0)
 e10 : s.env 10 = .one (.ptr 10 1 0 0)
 e11 : s.env 11 = .one (.ptr 11 1 0 0)
 e12 : s.env 12 = .one (.ptr 12 1 0 0)
 e16 : s.env 16 = .one PM
 e17 : s.env 17 = .one (.ptr 17 1 0 0)
 e18 : s.env 18 = A1 w
 s8 : s.S 8 = some (.box 48 [.mptr M])
 s9 : s.S 9 = some (.box 3 [.st (.int .i64 n)])
 s10 : s.S 10 = some (Bc t)
 s11 : s.S 11 = some (.box 3 [.st (.int .i64 d)])
 s12 : s.S 12 = some HH
 s17 : s.S 17 = some (Bc h)
 sj : ∀ j, 1000 ≤ j → s.S j = U j
theorem Cr.drop {U : AA} {M : Nat} {m n d : Int} {t h : Lm} {w : List Lm} {s : AS} {ds : List Nat} (hU : A7 U) (hM : 1000 ≤ M) (hd : ∀ d ∈ ds, d < 1000) (hn : ∀ i ∈ [8, 9, 10, 11, 12, 17], ds.contains i = false) (H : Cr U M m n d t h w s) : Cr U M m n d t h w (s.drop ds) := by
 obtain ⟨e0, e1, e8, e9, e10, e11, e12, e16, e17, e18, s8, s9, s10, s11, s12, s17, sj⟩ := H
 have h8 := hn 8 (by simp)
 have h9 := hn 9 (by simp)
 have h10 := hn 10 (by simp)
 have h11 := hn 11 (by simp)
 have h12 := hn 12 (by simp)
 have h17 := hn 17 (by simp)
 have hG := CF hd (id := 2023) (by omega)
 have hMM := CF hd hM
 refine ⟨?_, ?_, ?_, ?_, ?_, ?_, ?_, ?_, ?_, ?_, ?_, ?_, ?_, ?_, ?_, ?_, fun j hj => CT hU hd hj (sj j hj)⟩
 all_goals (simp only [AS.drop, AN, e0, e1, e8, e9, e10, e11, e12, e16, e17, e18, s8, s9, s10, s11, s12, s17, AV.purge, AC.purge, AC.clears, AC.clear, AI.purge, h8, h9, h10, h11, h12, h17, hG, hMM, Option.map_some, List.map_cons, List.map_nil]; try rfl)
theorem FM (T : AA) (M : Nat) (i d n : Int) (es : List (Int × Int)) (hM : 1000 ≤ M) (hi : 0 ≤ i ∧ i ≤ 1000000000) (hd : 0 ≤ d ∧ d ≤ 100) (hn : 0 ≤ n ∧ n ≤ 100) (hes : es.all (fun p => decide (0 ≤ p.2 ∧ p.2 ≤ 100)) = true)
  (s11 : T 11 = some (.box 3 [.st (.int .i64 d)])) (s8 : T 8 = some (.box 48 [.mptr M])) (s9 : T 9 = some (.box 3 [.st (.int .i64 n)])) (sM : T M = some (Bb es)) :
  Ag Tryd.prog 74 [AK i, .one (.ptr (up1 11) 1 0 0), .one (.ptr (up1 8) 1 0 0), .one (.ptr (up1 9) 1 0 0)] (upS T) (.tup [aLm (BH es n d i).1, An (BH es n d i).2]) (upS T) :=
 Oi (upS T) (up1 11) (up1 8) (up1 9) (up1 M) 3 48 3 i d n es (BE _) (BE _) (BE _) (BE _) hi hd hn hes (by rw [A_, s11]; rfl) (by rw [A_, s8]; rfl) (by rw [A_, s9]; rfl) (by rw [A_, sM]; exact OM es)
def Pt (f : Nat) : Prop := ∀ (S : AA) (Kn K' : List Lm) (M : Nat) (m n d : Int) (es : List (Int × Int)) (t x : Lm) (b : Bool), HV f m es n Kn t d = some (K', x, b) → 1000 ≤ M → M ≠ 2023 → M ≠ 2021 → S 2023 = some (Ap 2021 Kn.length) → S 2021 = some (Aj Kn) → S M = some (Bb es) →
 Ag Tryd.prog 63 [.one (.ptr 2023 1 0 0), AK m, .one (.mptr M), AK n, aLm t, AK d] S (.tup [aLm x, An b]) (BN S K')
theorem PD (f : Nat) : Pt f := by
 induction f using Nat.strongRecOn with
 | _ f ih =>
 intro S Kn K' M m n d es t0 x b ht hM hM1 hM2 sG sK sM
 cases f with
 | zero => simp [HV] at ht
 | succ f =>
 unfold HV at ht
 split at ht
 ·cases ht
 rename_i t hu
 split at ht
 ·cases ht
 rename_i hcond
 simp only [not_or, Decidable.not_not] at hcond
 obtain ⟨hk2, hok, hd0, hd1, hn0, hn1, hK1, hw1, hes⟩ := hcond
 have hok : okL t = true := by simpa using hok
 obtain ⟨hgd, hsz⟩ := Cd hok
 have hwf := Hi hok
 have hsp := Fh t hwf hsz
 have hPg := Ct (P := Lm.good 1000000000) (fun t a h ha => Lm.good_sub h ha) hgd
 generalize Ao t = p at *
 obtain ⟨h, w⟩ := p
 simp only at ht hPg hsp hw1
 have hKl : (Kn.map Ac).length = Kn.length := List.length_map _
 have hwl : (w.map Ac).length = w.length := List.length_map _
 have hself : BN S Kn = S := E7 sG sK
 refine CE.acS fun hS C hC => ?_
 unfold BY
 have nn : ∀ i, i < 1000 → S i = none := fun i hi => AR hS hi
 have n8 := nn 8 (by omega)
 have n9 := nn 9 (by omega)
 have n10 := nn 10 (by omega)
 have n11 := nn 11 (by omega)
 have n12 := nn 12 (by omega)
 have n17 := nn 17 (by omega)
 have n21 := nn 21 (by omega)
 have n22 := nn 22 (by omega)
 have n24 := nn 24 (by omega)
 have n28 := nn 28 (by omega)
 have n30 := nn 30 (by omega)
 have n33 := nn 33 (by omega)
 have n34 := nn 34 (by omega)
 have n190 := nn 190 (by omega)
 have n250 := nn 250 (by omega)
 have hT0 : ∀ (e : Nat → AV) (S1 : AA) (h0 : Lm), e 0 = .one (.ptr 2023 1 0 0) → True := fun _ _ _ _ => trivial
 have gi : ∀ a ∈ w, 0 ≤ a.idx ∧ a.idx ≤ 1000000000 := fun a ha => by have := (Lm.good_eq _ a).1 (hPg.2 a ha); omega
 have ghi : 0 ≤ h.idx ∧ h.idx ≤ 1000000000 := by have := (Lm.good_eq _ h).1 hPg.1; omega
 repeat' with_reducible first | refine W ?_ | refine Z0 ?_ | ((first | refine Wo fun K hK => ?_ | refine Wp ?_ | refine Wq ?_ | refine Wr ?_); (try simp only [go_sem, fN, seval, eT, iR, AS.startS, n8, n9, n10, n11, n12, dT, dF, nL]); (repeat refine Ai ?_); (try (refine hK _ ?_; clear hK K)); try refine iC ?_)
 refine ⟨_, [(2023, Ap 2021 Kn.length), (2021, Aj Kn)], Cw (by simp only [go_sem, fN, seval, eT, iR, sG]) (by simp only [go_sem, fN, seval, eT, iR, sK]), fun T hT => Iy T 2023 2021 Kn (hT (2023, Ap 2021 Kn.length) (by simp)) (hT (2021, Aj Kn) (by simp)) hu, ?_⟩
 by_cases hk5 : h.kind = 5
 ·rw [if_pos hk5] at ht
  by_cases him : h.idx = m
  ·rw [if_pos him] at ht
   cases ht
   repeat' (first | (with_reducible first | refine W ?_ | refine Z0 ?_ | ((first | refine Wo fun K hK => ?_ | refine Wp ?_ | refine Wq ?_ | refine Wr ?_); (try simp only [go_sem, fN, seval, eT, iR, AS.caps, n17, sG, sK, hk2, hk5, him, AB, dT, dF, nL]); (repeat refine Ai ?_); (try (refine hK _ ?_; clear hK K)); try refine iC ?_)) | refine Cg _ (hsp) ?_)
   rw [hself]
   refine Ab (.tup [aLm x, An false]) hS trivial ?_ rfl fun j hj => ?_
   ·simp only [go_sem, fN, seval, eT, iR, AD, AE, AM]
   ·simp only [go_sem, fN, seval, eT, iR, AZ, hj]
  rw [if_neg him] at ht
  split at ht
  ·cases ht
  rename_i hrng
  simp only [Decidable.not_not] at hrng
  repeat' (first | (with_reducible first | refine W ?_ | refine Z0 ?_ | ((first | refine Wo fun K hK => ?_ | refine Wp ?_ | refine Wq ?_ | refine Wr ?_); (try simp only [go_sem, fN, seval, eT, iR, AS.caps, n17, sG, sK, hk2, hk5, him, AB, dT, dF, nL]); (repeat refine Ai ?_); (try (refine hK _ ?_; clear hK K)); try refine iC ?_)) | refine Cg _ (hsp) ?_)
  refine IWP.ghost (As.own 19 190 3 1 (xs := ([] : List (List SV))) rfl (by simp only [go_sem, fN, seval, eT, iR, n190]) (by simp) (by omega)) ?_
  refine IWP.atT (fun e s => Cr S M m n d t h w ⟨e, s⟩ ∧ e 19 = .one (.row 190 0) ∧ e 73 = A1 w ∧ e 74 = AK w.length ∧ e 75 = AK 0 ∧ s 190 = some (.arow 3 1 []) ∧ ∀ i ∈ [21, 22, 24, 28, 250], s i = none) ⟨⟨rfl, rfl, rfl, rfl, rfl, rfl, rfl, rfl, rfl, rfl, ?_, ?_, ?_, ?_, ?_, ?_, fun j hj => ?_⟩, rfl, rfl, rfl, rfl, ?_, ?_⟩ ?_
  ·simp only [go_sem, fN, seval, eT, iR]
  ·simp only [go_sem, fN, seval, eT, iR]
  ·simp only [go_sem, fN, seval, eT, iR]
  ·simp only [go_sem, fN, seval, eT, iR]
  ·simp only [go_sem, fN, seval, eT, iR]
  ·simp only [go_sem, fN, seval, eT, iR, Bc, hk5]
  ·simp only [go_sem, fN, seval, eT, iR, AZ, hj]
  ·simp only [go_sem, fN, seval, eT, iR]
  ·intro i hi
   simp only [List.mem_cons, List.not_mem_nil, or_false] at hi
   rcases hi with rfl | rfl | rfl | rfl | rfl <;> simp only [go_sem, fN, seval, eT, iR, n21, n22, n24, n28, n250]
  rintro env0 S0 ⟨hI, e19, e73, e74, e75, s190, hno⟩
  refine IWP.loopD [21, 22] (fun q s => ∃ k, k ≤ w.length ∧ q = w.length - k ∧ Cr S M m n d t h w s ∧ s.env 19 = .one (.row 190 (Bx es n d 0 (w.take k)).length) ∧ s.env 73 = A1 w ∧ s.env 74 = AK w.length ∧ s.env 75 = AK k ∧ s.S 190 = some (.arow 3 1 ((Bx es n d 0 (w.take k)).map B1)) ∧ ∀ i ∈ [21, 22, 24, 28, 250], s.S i = none) w.length
   ⟨0, Nat.zero_le _, rfl, hI, e19, e73, e74, e75, s190, hno⟩ ?_
  clear hI e19 e73 e74 e75 s190 hno
  rintro q ⟨env, S1⟩ ⟨k, hk, rfl, hI, e19, e73, e74, e75, s190, hno⟩
  obtain ⟨e0, e1, e8, e9, e10, e11, e12, e16, e17, e18, s8, s9, s10, s11, s12, s17, sj⟩ := id hI
  simp only at e0 e1 e8 e9 e10 e11 e12 e16 e17 e18 s8 s9 s10 s11 s12 s17 sj e19 e73 e74 e75 s190 hno
  have o21 := hno 21 (by simp)
  have o22 := hno 22 (by simp)
  have o24 := hno 24 (by simp)
  have o28 := hno 28 (by simp)
  have o250 := hno 250 (by simp)
  have sMM := (sj M hM).trans sM
  by_cases hlt : (k : Int) < w.length
  ·obtain ⟨a, ha⟩ := Ak (show k < w.length by omega)
   have hsn := Hr es n d 0 ha
   have hsl := Fy es n d (w.take k) 0
   rw [List.length_take] at hsl
   generalize hL : Bx es n d 0 (w.take k) = L at *
   have hLl : (L.map B1).length = L.length := List.length_map _
   repeat' with_reducible first | refine W ?_ | refine Z0 ?_ | ((first | refine Wo fun K hK => ?_ | refine Wp ?_ | refine Wq ?_ | refine Wr ?_); (try simp only [go_sem, fN, seval, eT, iR, e16, e17, e19, e73, e74, e75, s190, o21, o22, hlt, ha, AB, dT, dF, nL]); (repeat refine Ai ?_); (try (refine hK _ ?_; clear hK K)); try refine iC ?_)
   refine ⟨by kernel_rfl, _, _, FM _ M a.idx d n es hM (gi a (AJ ha)) ⟨hd0, hd1⟩ ⟨hn0, hn1⟩ hes (by simp only [go_sem, fN, seval, eT, iR, s11]) (by simp only [go_sem, fN, seval, eT, iR, s8]) (by simp only [go_sem, fN, seval, eT, iR, s9]) (by simp only [go_sem, fN, seval, eT, iR, AZ, hM, sMM]), ?_⟩
   generalize hq : BH es n d a.idx = q at *
   obtain ⟨v, bo⟩ := q
   cases bo
   ·simp only [Bool.false_eq_true, if_false, List.append_nil] at hsn
    repeat' with_reducible first | refine W ?_ | refine Z0 ?_ | ((first | refine Wo fun K hK => ?_ | refine Wp ?_ | refine Wq ?_ | refine Wr ?_); (try simp only [go_sem, fN, seval, eT, iR, e16, e17, e19, e73, e74, e75, s190, o21, o22, hlt, ha, hLl, AB, dT, dF, nL]); (repeat refine Ai ?_); (try (refine hK _ ?_; clear hK K)); try refine iC ?_)
    refine AH ⟨w.length - (k + 1), by omega, k + 1, by omega, rfl, Cr.drop hS hM (by decide) (by decide) ⟨e0, e1, e8, e9, e10, e11, e12, e16, e17, e18, s8, s9, s10, s11, s12, s17, fun j hj => ?_⟩, ?_, ?_, ?_, ?_, ?_, ?_⟩
    ·have hj2 := sj j hj
     simp only [go_sem, fN, seval, eT, iR, AZ, hj, hj2]
    ·rw [hsn]
     simp only [go_sem, fN, seval, AS.drop, AN, AC.clears, AC.clear, AC.highs, AC.high, Bool.not_false, Bool.true_and, Bool.and_self, AV.purge, AV.purges, AC.purge, AI.purge, List.contains_cons, List.contains_nil, Nat.reduceBEq, Bool.or_self, Bool.or_false, Bool.false_or, Bool.or_true, eT, iR, e19]
    ·simp only [go_sem, fN, seval, AS.drop, AN, AC.clears, AC.clear, AC.highs, AC.high, Bool.not_false, Bool.true_and, Bool.and_self, AV.purge, AV.purges, AC.purge, AI.purge, List.contains_cons, List.contains_nil, Nat.reduceBEq, Bool.or_self, Bool.or_false, Bool.false_or, Bool.or_true, eT, iR, e73]
    ·simp only [go_sem, fN, seval, AS.drop, AN, AC.clears, AC.clear, AC.highs, AC.high, Bool.not_false, Bool.true_and, Bool.and_self, AV.purge, AV.purges, AC.purge, AI.purge, List.contains_cons, List.contains_nil, Nat.reduceBEq, Bool.or_self, Bool.or_false, Bool.false_or, Bool.or_true, eT, iR, e74]
    ·rfl
    ·rw [hsn]
     simp only [go_sem, fN, seval, AS.drop, AN, AC.clears, AC.clear, AC.highs, AC.high, Bool.not_false, Bool.true_and, Bool.and_self, AV.purge, AV.purges, AC.purge, AI.purge, List.contains_cons, List.contains_nil, Nat.reduceBEq, Bool.or_self, Bool.or_false, Bool.false_or, Bool.or_true, eT, iR, s190]
    ·simp only [go_sem, fN, seval, AS.drop, AN, AC.clears, AC.clear, AC.highs, AC.high, Bool.not_false, Bool.true_and, Bool.and_self, AV.purge, AV.purges, AC.purge, AI.purge, List.contains_cons, List.contains_nil, Nat.reduceBEq, Bool.or_self, Bool.or_false, Bool.false_or, Bool.or_true, eT, iR, o24, o28, o250]
   ·simp only [if_true, Int.zero_add] at hsn
    repeat' with_reducible first | refine W ?_ | refine Z0 ?_ | ((first | refine Wo fun K hK => ?_ | refine Wp ?_ | refine Wq ?_ | refine Wr ?_); (try simp only [go_sem, fN, seval, eT, iR, e16, e17, e19, e73, e74, e75, s190, o21, o22, hlt, ha, hLl, AB, dT, dF, nL]); (repeat refine Ai ?_); (try (refine hK _ ?_; clear hK K)); try refine iC ?_)
    refine AH ⟨w.length - (k + 1), by omega, k + 1, by omega, rfl, Cr.drop hS hM (by decide) (by decide) ⟨e0, e1, e8, e9, e10, e11, e12, e16, e17, e18, s8, s9, s10, s11, s12, s17, fun j hj => ?_⟩, ?_, ?_, ?_, ?_, ?_, ?_⟩
    ·have hj2 := sj j hj
     simp only [go_sem, fN, seval, eT, iR, AZ, hj, hj2]
    ·rw [hsn]
     simp only [go_sem, fN, seval, AS.drop, AN, AC.clears, AC.clear, AC.highs, AC.high, Bool.not_false, Bool.true_and, Bool.and_self, AV.purge, AV.purges, AC.purge, AI.purge, List.contains_cons, List.contains_nil, Nat.reduceBEq, Bool.or_self, Bool.or_false, Bool.false_or, Bool.or_true, eT, iR]
    ·simp only [go_sem, fN, seval, AS.drop, AN, AC.clears, AC.clear, AC.highs, AC.high, Bool.not_false, Bool.true_and, Bool.and_self, AV.purge, AV.purges, AC.purge, AI.purge, List.contains_cons, List.contains_nil, Nat.reduceBEq, Bool.or_self, Bool.or_false, Bool.false_or, Bool.or_true, eT, iR, e73]
    ·simp only [go_sem, fN, seval, AS.drop, AN, AC.clears, AC.clear, AC.highs, AC.high, Bool.not_false, Bool.true_and, Bool.and_self, AV.purge, AV.purges, AC.purge, AI.purge, List.contains_cons, List.contains_nil, Nat.reduceBEq, Bool.or_self, Bool.or_false, Bool.false_or, Bool.or_true, eT, iR, e74]
    ·rfl
    ·rw [hsn, List.map_append]
     simp only [go_sem, fN, seval, AS.drop, AN, AC.clears, AC.clear, AC.highs, AC.high, Bool.not_false, Bool.true_and, Bool.and_self, AV.purge, AV.purges, AC.purge, AI.purge, List.contains_cons, List.contains_nil, Nat.reduceBEq, Bool.or_self, Bool.or_false, Bool.false_or, Bool.or_true, eT, iR, B1]
    ·simp only [go_sem, fN, seval, AS.drop, AN, AC.clears, AC.clear, AC.highs, AC.high, Bool.not_false, Bool.true_and, Bool.and_self, AV.purge, AV.purges, AC.purge, AI.purge, List.contains_cons, List.contains_nil, Nat.reduceBEq, Bool.or_self, Bool.or_false, Bool.false_or, Bool.or_true, eT, iR, o24, o28, o250]
  ·have hke : k = w.length := by omega
   rw [hke, List.take_length] at e19 s190
   have hsl := Fy es n d w 0
   have hsm : ∀ j ∈ Bx es n d 0 w, 0 ≤ j ∧ j < w.length := fun j hj => by have := IP es n d hj; omega
   generalize hL : Bx es n d 0 w = L at *
   have hLl : (L.map B1).length = L.length := List.length_map _
   by_cases hlt2 : L.length < w.length
   case' pos =>
    have hlt2' : ((L.length : Nat) : Int) < w.length := by omega
    have hf := LY S Kn sG sK (by omega)
    obtain ⟨i, hi⟩ : ∃ i : Nat, h.idx = (i : Int) := ⟨h.idx.toNat, by omega⟩
    have hiK : i < Kn.length := by omega
    rw [if_pos hlt2] at ht
    have hgv : Jn Kn h.idx L w.length = (Kn ++ [Lm.nil]).set i (Bv (DU (mU Kn.length) (CY L w.length)) w.length) := by unfold Jn; rw [hi]; rfl
    rw [hgv] at ht
    simp only [Option.some.injEq, Prod.mk.injEq] at ht
    obtain ⟨rfl, hx, rfl⟩ := ht
    generalize mU Kn.length = u at *
    have hc1 := Ii L w.length ⟨by omega, by omega⟩ (fun j hj => by have := hsm j hj; omega) (by omega)
    generalize CY L w.length = cw at *
    have hc2 := HM u cw
    generalize DU u cw = z at *
    have hc3 := Fz z w.length (by omega)
    generalize Bv z w.length = v at *
    repeat' with_reducible first | refine W ?_ | refine Z0 ?_ | ((first | refine Wo fun K hK => ?_ | refine Wp ?_ | refine Wq ?_ | refine Wr ?_); (try simp only [go_sem, fN, seval, eT, iR, e0, e17, e18, e19, e73, e74, e75, s190, hlt, hLl, hlt2', dT, dF, nL]); (repeat refine Ai ?_); (try (refine hK _ ?_; clear hK K)); try refine iC ?_)
    refine CI (vs := [.one (.ptr 2023 1 0 0)]) (by simp [Cn, outV, outC, stC]) rfl hS sj hf ?_
    have t23 : BI S1 (BN S (Kn ++ [Lm.nil])) 2023 = some (Ap 2021 (Kn.length + 1)) := by rw [Aq (by decide), FT, List.length_append]; rfl
    have t21 : BI S1 (BN S (Kn ++ [Lm.nil])) 2021 = some (Aj (Kn ++ [Lm.nil])) := by rw [Aq (by decide), Fi]
    have tl : ∀ j, j < 1000 → BI S1 (BN S (Kn ++ [Lm.nil])) j = S1 j := fun j hj => Az hj
    have tj : ∀ j, 1000 ≤ j → j ≠ 2023 → j ≠ 2021 → BI S1 (BN S (Kn ++ [Lm.nil])) j = S j := fun j hj h1 h2 => by rw [Aq hj, DP h1 h2]
    have hil : i < Kn.length + 1 := by omega
    have hK1l : ((Kn ++ [Lm.nil]).map Ac).length = Kn.length + 1 := by rw [List.length_map, List.length_append]; rfl
    obtain ⟨k0, hk0⟩ := Ak (show i < (Kn ++ [Lm.nil]).length by rw [List.length_append]; show i < Kn.length + 1; omega)
    generalize BI S1 (BN S (Kn ++ [Lm.nil])) = S2 at *
    have u8 := (tl 8 (by omega)).trans s8
    have u9 := (tl 9 (by omega)).trans s9
    have u10 := (tl 10 (by omega)).trans s10
    have u11 := (tl 11 (by omega)).trans s11
    have u12 := (tl 12 (by omega)).trans s12
    have u17 := (tl 17 (by omega)).trans s17
    have u24 := (tl 24 (by omega)).trans o24
    have u28 := (tl 28 (by omega)).trans o28
    have u250 := (tl 250 (by omega)).trans o250
    have u190 := (tl 190 (by omega)).trans s190
    repeat' (first | (with_reducible first | refine W ?_ | refine Z0 ?_ | ((first | refine Wo fun K hK => ?_ | refine Wp ?_ | refine Wq ?_ | refine Wr ?_); (try simp only [go_sem, fN, seval, eT, iR, e0, e17, e18, e19, e73, e74, e75, t23, t21, u8, u9, u10, u11, u12, u17, u24, u190, hi, hlt, hLl, hK1l, hil, hk0, hlt2', AB, dT, dF, nL]); (repeat refine Ai ?_); (try (refine hK _ ?_; clear hK K)); try refine iC ?_)) | refine Cg _ (hc1) ?_ | refine Cg _ (hc2) ?_ | refine Cg _ (hc3) ?_)
    obtain ⟨U, hU⟩ : ∃ U : AA, U = BN S ((Kn ++ [Lm.nil]).set i v) := ⟨_, rfl⟩
    have hUc : A7 U := by rw [hU]; exact A4 (G := 2023) (KB := 2021) hS (by decide) (by decide)
    have sUM : U M = some (Bb es) := by rw [hU, DP hM1 hM2]; exact sM
    have hUj : ∀ j, 1000 ≤ j → (if j = 2021 then some (.mrow 24 3 (((Kn ++ [Lm.nil]).map Ac).set i [.int .i64 v.kind, .int .i64 v.idx, .list (v.subs.map Ac)])) else S2 j) = U j := fun j hj => by
     rw [hU]
     by_cases h1 : j = 2021
     ·subst h1
      rw [Fi]
      simp only [go_sem, fN, seval, eT, iR, Aj, List.map_set, AB]
     ·by_cases h2 : j = 2023
      ·subst h2
       rw [FT, List.length_set, List.length_append]
       simp only [go_sem, fN, seval, eT, iR, t23]
      ·have hj2 := tj j hj h2 h1
       rw [DP h2 h1]
       simp only [go_sem, fN, seval, eT, iR, AZ, hj, h1, hj2]
    obtain ⟨h0, hh0⟩ : ∃ h0 : Lm, h0 = u := ⟨_, rfl⟩
    rw [← hh0] at hx
    rw [← hU]
    refine IWP.ghost (As.own 25 250 24 3 (xs := ([] : List (List SV))) rfl (by simp only [go_sem, fN, seval, eT, iR, u250]) (by simp) (by omega)) ?_
    refine IWP.atT (fun e s => Cr U M m n d t h0 w ⟨e, s⟩ ∧ e 25 = .one (.row 250 0) ∧ e 117 = .one (.row 190 L.length) ∧ e 118 = AK L.length ∧ e 119 = AK 0 ∧ s 190 = some (.arow 3 1 (L.map B1)) ∧ s 250 = some (.arow 24 3 []) ∧ s 28 = none) ⟨⟨e0, e1, e8, e9, e10, e11, e12, e16, e17, e18, ?_, ?_, ?_, ?_, ?_, ?_, fun j hj => ?_⟩, rfl, rfl, rfl, rfl, ?_, ?_, ?_⟩ ?_
    ·simp only [go_sem, fN, seval, eT, iR, u8]
    ·simp only [go_sem, fN, seval, eT, iR, u9]
    ·simp only [go_sem, fN, seval, eT, iR, u10]
    ·simp only [go_sem, fN, seval, eT, iR, u11]
    ·simp only [go_sem, fN, seval, eT, iR, u12]
    ·rw [hh0]
     simp only [go_sem, fN, seval, eT, iR]
    ·have hj2 := hUj j hj
     simp only [go_sem, fN, seval, eT, iR, AZ, hj, hj2]
    ·simp only [go_sem, fN, seval, eT, iR, u190]
    ·rfl
    ·simp only [go_sem, fN, seval, eT, iR, u28]
   case' neg =>
    have hlt2' : ¬ ((L.length : Nat) : Int) < w.length := by omega
    rw [if_neg hlt2] at ht
    simp only [Option.some.injEq, Prod.mk.injEq] at ht
    obtain ⟨rfl, hx, rfl⟩ := ht
    rw [hself]
    repeat' with_reducible first | refine W ?_ | refine Z0 ?_ | ((first | refine Wo fun K hK => ?_ | refine Wp ?_ | refine Wq ?_ | refine Wr ?_); (try simp only [go_sem, fN, seval, eT, iR, e0, e17, e18, e19, e73, e74, e75, s190, hlt, hLl, hlt2', dT, dF, nL]); (repeat refine Ai ?_); (try (refine hK _ ?_; clear hK K)); try refine iC ?_)
    obtain ⟨U, hU⟩ : ∃ U : AA, U = S := ⟨_, rfl⟩
    have hUc : A7 U := by rw [hU]; exact hS
    have sUM : U M = some (Bb es) := by rw [hU]; exact sM
    obtain ⟨h0, hh0⟩ : ∃ h0 : Lm, h0 = h := ⟨_, rfl⟩
    rw [← hh0] at hx
    rw [← hU]
    refine IWP.ghost (As.own 25 250 24 3 (xs := ([] : List (List SV))) rfl (by simp only [go_sem, fN, seval, eT, iR, o250]) (by simp) (by omega)) ?_
    refine IWP.atT (fun e s => Cr U M m n d t h0 w ⟨e, s⟩ ∧ e 25 = .one (.row 250 0) ∧ e 117 = .one (.row 190 L.length) ∧ e 118 = AK L.length ∧ e 119 = AK 0 ∧ s 190 = some (.arow 3 1 (L.map B1)) ∧ s 250 = some (.arow 24 3 []) ∧ s 28 = none) ⟨⟨e0, e1, e8, e9, e10, e11, e12, e16, e17, e18, ?_, ?_, ?_, ?_, ?_, ?_, fun j hj => ?_⟩, rfl, rfl, rfl, rfl, ?_, ?_, ?_⟩ ?_
    ·simp only [go_sem, fN, seval, eT, iR, s8]
    ·simp only [go_sem, fN, seval, eT, iR, s9]
    ·simp only [go_sem, fN, seval, eT, iR, s10]
    ·simp only [go_sem, fN, seval, eT, iR, s11]
    ·simp only [go_sem, fN, seval, eT, iR, s12]
    ·rw [hh0]
     simp only [go_sem, fN, seval, eT, iR, s17]
    ·have hj2 := sj j hj
     rw [hU]
     simp only [go_sem, fN, seval, eT, iR, AZ, hj, hj2]
    ·simp only [go_sem, fN, seval, eT, iR, s190]
    ·rfl
    ·simp only [go_sem, fN, seval, eT, iR, o28]
   all_goals
    clear hI e0 e1 e8 e9 e10 e11 e12 e16 e17 e18 s8 s9 s10 s11 s12 s17 sj e19 e73 e74 e75 s190 hno
    rintro env0 S0 ⟨hI, e25, e117, e118, e119, s190, s250, z28⟩
    have lst_len : ∀ k, k ≤ L.length → (((L.take k).map fun i => (BH es n d (w.getD i.toNat .nil).idx).1).map Ac).length = k := fun k hk => by rw [List.length_map, List.length_map, List.length_take]; omega
    refine IWP.loopD [28] (fun q s => ∃ k, k ≤ L.length ∧ q = L.length - k ∧ Cr U M m n d t h0 w s ∧ s.env 25 = .one (.row 250 k) ∧ s.env 117 = .one (.row 190 L.length) ∧ s.env 118 = AK L.length ∧ s.env 119 = AK k ∧ s.S 190 = some (.arow 3 1 (L.map B1)) ∧ s.S 250 = some (.arow 24 3 (((L.take k).map fun i => (BH es n d (w.getD i.toNat .nil).idx).1).map Ac)) ∧ s.S 28 = none) L.length
     ⟨0, Nat.zero_le _, rfl, hI, e25, e117, e118, e119, s190, s250, z28⟩ ?_
    clear hI e25 e117 e118 e119 s190 s250 z28
    rintro q ⟨env, S1⟩ ⟨k, hk, rfl, hI, e25, e117, e118, e119, s190, s250, z28⟩
    obtain ⟨e0, e1, e8, e9, e10, e11, e12, e16, e17, e18, s8, s9, s10, s11, s12, s17, sj⟩ := id hI
    simp only at e0 e1 e8 e9 e10 e11 e12 e16 e17 e18 s8 s9 s10 s11 s12 s17 sj e25 e117 e118 e119 s190 s250 z28
    have sMM := (sj M hM).trans sUM
    have hlk := lst_len k hk
    by_cases hlt3 : (k : Int) < L.length
    ·obtain ⟨j, hj⟩ := Ak (show k < L.length by omega)
     have hj12 := hsm j (AJ hj)
     obtain ⟨jn, rfl⟩ : ∃ jn : Nat, j = (jn : Int) := ⟨j.toNat, by omega⟩
     have hjw : jn < w.length := by omega
     obtain ⟨a, ha⟩ := Ak hjw
     have hga : w.getD jn .nil = a := by rw [List.getD_eq_getElem?_getD, ha]; rfl
     have hsn : (((L.take (k + 1)).map fun i => (BH es n d (w.getD i.toNat .nil).idx).1).map Ac) = (((L.take k).map fun i => (BH es n d (w.getD i.toNat .nil).idx).1).map Ac) ++ [Ac (BH es n d a.idx).1] := by
      rw [Al hj, List.map_append, List.map_append]
      simp only [List.map_cons, List.map_nil, Int.toNat_natCast, hga]
     generalize hX : ((L.take k).map fun i => (BH es n d (w.getD i.toNat .nil).idx).1).map Ac = X at *
     repeat' with_reducible first | refine W ?_ | refine Z0 ?_ | ((first | refine Wo fun K hK => ?_ | refine Wp ?_ | refine Wq ?_ | refine Wr ?_); (try simp only [go_sem, fN, seval, eT, iR, e16, e17, e18, e25, e117, e118, e119, s190, s250, z28, hlt3, hj, ha, hjw, hlk, hLl, B1, AB, dT, dF, nL]); (repeat refine Ai ?_); (try (refine hK _ ?_; clear hK K)); try refine iC ?_)
     refine ⟨by kernel_rfl, _, _, FM _ M a.idx d n es hM (gi a (AJ ha)) ⟨hd0, hd1⟩ ⟨hn0, hn1⟩ hes s11 s8 s9 sMM, ?_⟩
     generalize hq : BH es n d a.idx = q at *
     obtain ⟨v1, bo⟩ := q
     repeat' with_reducible first | refine W ?_ | refine Z0 ?_ | ((first | refine Wo fun K hK => ?_ | refine Wp ?_ | refine Wq ?_ | refine Wr ?_); (try simp only [go_sem, fN, seval, eT, iR, e16, e17, e18, e25, e117, e118, e119, s190, s250, z28, hlt3, hj, ha, hjw, hlk, hLl, B1, AB, dT, dF, nL]); (repeat refine Ai ?_); (try (refine hK _ ?_; clear hK K)); try refine iC ?_)
     refine AH ⟨L.length - (k + 1), by omega, k + 1, by omega, rfl, Cr.drop hUc hM (by decide) (by decide) ⟨e0, e1, e8, e9, e10, e11, e12, e16, e17, e18, s8, s9, s10, s11, s12, s17, fun j hj => ?_⟩, ?_, ?_, ?_, ?_, ?_, ?_, ?_⟩
     ·have hj2 := sj j hj
      simp only [go_sem, fN, seval, eT, iR, AZ, hj, hj2]
     ·simp only [go_sem, fN, seval, AS.drop, AN, AC.clears, AC.clear, AC.highs, AC.high, Bool.not_false, Bool.true_and, Bool.and_self, AV.purge, AV.purges, AC.purge, AI.purge, List.contains_cons, List.contains_nil, Nat.reduceBEq, Bool.or_self, Bool.or_false, Bool.false_or, Bool.or_true, eT, iR]
     ·simp only [go_sem, fN, seval, AS.drop, AN, AC.clears, AC.clear, AC.highs, AC.high, Bool.not_false, Bool.true_and, Bool.and_self, AV.purge, AV.purges, AC.purge, AI.purge, List.contains_cons, List.contains_nil, Nat.reduceBEq, Bool.or_self, Bool.or_false, Bool.false_or, Bool.or_true, eT, iR, e117]
     ·simp only [go_sem, fN, seval, AS.drop, AN, AC.clears, AC.clear, AC.highs, AC.high, Bool.not_false, Bool.true_and, Bool.and_self, AV.purge, AV.purges, AC.purge, AI.purge, List.contains_cons, List.contains_nil, Nat.reduceBEq, Bool.or_self, Bool.or_false, Bool.false_or, Bool.or_true, eT, iR, e118]
     ·rfl
     ·simp only [go_sem, fN, seval, AS.drop, AN, AC.clears, AC.clear, AC.highs, AC.high, Bool.not_false, Bool.true_and, Bool.and_self, AV.purge, AV.purges, AC.purge, AI.purge, List.contains_cons, List.contains_nil, Nat.reduceBEq, Bool.or_self, Bool.or_false, Bool.false_or, Bool.or_true, eT, iR, s190]
     ·rw [hsn]
      simp only [go_sem, fN, seval, AS.drop, AN, AC.clears, AC.clear, AC.highs, AC.high, Bool.not_false, Bool.true_and, Bool.and_self, AV.purge, AV.purges, AC.purge, AI.purge, List.contains_cons, List.contains_nil, Nat.reduceBEq, Bool.or_self, Bool.or_false, Bool.false_or, Bool.or_true, eT, iR, AB]
     ·rfl
    ·have hke : k = L.length := by omega
     rw [hke, List.take_length] at s250
     rw [hke] at e25
     rw [hke, List.take_length] at hlk
     have hc := HM h0 (L.map fun i => (BH es n d (w.getD i.toNat .nil).idx).1)
     rw [hx] at hc
     generalize (L.map fun i => (BH es n d (w.getD i.toNat .nil).idx).1) = X at *
     have hXl : X.length = L.length := by rw [← hlk, List.length_map]
     repeat' (first | (with_reducible first | refine W ?_ | refine Z0 ?_ | ((first | refine Wo fun K hK => ?_ | refine Wp ?_ | refine Wq ?_ | refine Wr ?_); (try simp only [go_sem, fN, seval, eT, iR, e16, e17, e18, e12, e25, e117, e118, e119, s12, s17, s190, s250, hlt3, hlk, hXl, AB, dT, dF, nL]); (repeat refine Ai ?_); (try (refine hK _ ?_; clear hK K)); try refine iC ?_)) | refine Cg _ (hc) ?_)
     refine Ab (.tup [aLm x, An true]) hUc trivial ?_ rfl fun j hj => ?_
     ·simp only [go_sem, fN, seval, eT, iR, AD, AE, AM, e12]
     ·have hj2 := sj j hj
      simp only [go_sem, fN, seval, eT, iR, AZ, hj, hj2]
 ·rw [if_neg hk5] at ht
  by_cases hbad : h.kind = 1 ∧ (BH es n d h.idx).2 = false
  ·obtain ⟨hk1, hnm⟩ := hbad
   rw [if_pos hk1, if_neg (by rw [hnm]; simp)] at ht
   cases ht
   repeat' (first | (with_reducible first | refine W ?_ | refine Z0 ?_ | ((first | refine Wo fun K hK => ?_ | refine Wp ?_ | refine Wq ?_ | refine Wr ?_); (try simp only [go_sem, fN, seval, eT, iR, AS.caps, n17, sG, sK, hk2, hk5, hk1, AB, dT, dF, nL]); (repeat refine Ai ?_); (try (refine hK _ ?_; clear hK K)); try refine iC ?_)) | refine Cg _ (hsp) ?_)
   refine ⟨by kernel_rfl, _, _, FM _ M h.idx d n es hM ghi ⟨hd0, hd1⟩ ⟨hn0, hn1⟩ hes (by simp only [go_sem, fN, seval, eT, iR]) (by simp only [go_sem, fN, seval, eT, iR]) (by simp only [go_sem, fN, seval, eT, iR]) (by simp only [go_sem, fN, seval, eT, iR, AZ, hM, sM]), ?_⟩
   generalize hq : BH es n d h.idx = q at *
   obtain ⟨v, bo⟩ := q
   simp only at hnm
   subst hnm
   repeat' with_reducible first | refine W ?_ | refine Z0 ?_ | ((first | refine Wo fun K hK => ?_ | refine Wp ?_ | refine Wq ?_ | refine Wr ?_); (try simp only [go_sem, fN, seval, eT, iR, n30, hk2, hk5, hk1, AB, dT, dF, nL]); (repeat refine Ai ?_); (try (refine hK _ ?_; clear hK K)); try refine iC ?_)
   rw [hself]
   refine Ab (.tup [aLm x, An false]) hS trivial ?_ rfl fun j hj => ?_
   ·simp only [go_sem, fN, seval, eT, iR, AD, AE, AM]
   ·simp only [go_sem, fN, seval, eT, iR, AZ, hj]
  ·have hts : EW f m es n Kn w d t (if h.kind = 1 then (BH es n d h.idx).1 else h) = some (K', x, b) := by
    split
    ·rename_i hk1
     rw [if_pos hk1] at ht
     split at ht
     ·exact ht
     ·rename_i hnm
      exact absurd ⟨hk1, by simpa using hnm⟩ hbad
    ·rename_i hk1
     rw [if_neg hk1] at ht
     exact ht
   by_cases hk1 : h.kind = 1
   case' pos =>
    rw [if_pos hk1] at hts
    have hnm : (BH es n d h.idx).2 = true := by simpa [hk1] using hbad
    repeat' (first | (with_reducible first | refine W ?_ | refine Z0 ?_ | ((first | refine Wo fun K hK => ?_ | refine Wp ?_ | refine Wq ?_ | refine Wr ?_); (try simp only [go_sem, fN, seval, eT, iR, AS.caps, n17, sG, sK, hk2, hk5, hk1, AB, dT, dF, nL]); (repeat refine Ai ?_); (try (refine hK _ ?_; clear hK K)); try refine iC ?_)) | refine Cg _ (hsp) ?_)
    refine ⟨by kernel_rfl, _, _, FM _ M h.idx d n es hM ghi ⟨hd0, hd1⟩ ⟨hn0, hn1⟩ hes (by simp only [go_sem, fN, seval, eT, iR]) (by simp only [go_sem, fN, seval, eT, iR]) (by simp only [go_sem, fN, seval, eT, iR]) (by simp only [go_sem, fN, seval, eT, iR, AZ, hM, sM]), ?_⟩
    generalize hq : BH es n d h.idx = q at *
    obtain ⟨v, bo⟩ := q
    simp only at hnm hts
    subst hnm
    repeat' with_reducible first | refine W ?_ | refine Z0 ?_ | ((first | refine Wo fun K hK => ?_ | refine Wp ?_ | refine Wq ?_ | refine Wr ?_); (try simp only [go_sem, fN, seval, eT, iR, n30, hk2, hk5, hk1, AB, dT, dF, nL]); (repeat refine Ai ?_); (try (refine hK _ ?_; clear hK K)); try refine iC ?_)
    obtain ⟨h0, hh0⟩ : ∃ h0 : Lm, h0 = v := ⟨_, rfl⟩
    rw [← hh0] at hts
    refine IWP.atT (fun e s => Cr S M m n d t h0 w ⟨e, s⟩ ∧ e 155 = A1 w ∧ e 156 = AK w.length ∧ e 157 = AK 0 ∧ s 33 = none ∧ s 34 = none) ⟨⟨rfl, rfl, rfl, rfl, rfl, rfl, rfl, rfl, rfl, rfl, ?_, ?_, ?_, ?_, ?_, ?_, fun j hj => ?_⟩, rfl, rfl, rfl, ?_, ?_⟩ ?_
    ·simp only [go_sem, fN, seval, eT, iR]
    ·simp only [go_sem, fN, seval, eT, iR]
    ·simp only [go_sem, fN, seval, eT, iR]
    ·simp only [go_sem, fN, seval, eT, iR]
    ·simp only [go_sem, fN, seval, eT, iR]
    ·rw [hh0]
     simp only [go_sem, fN, seval, eT, iR, Bc, AB]
    ·simp only [go_sem, fN, seval, eT, iR, AZ, hj]
    ·simp only [go_sem, fN, seval, eT, iR, n33]
    ·simp only [go_sem, fN, seval, eT, iR, n34]
   case' neg =>
    rw [if_neg hk1] at hts
    repeat' (first | (with_reducible first | refine W ?_ | refine Z0 ?_ | ((first | refine Wo fun K hK => ?_ | refine Wp ?_ | refine Wq ?_ | refine Wr ?_); (try simp only [go_sem, fN, seval, eT, iR, AS.caps, n17, sG, sK, hk2, hk5, hk1, AB, dT, dF, nL]); (repeat refine Ai ?_); (try (refine hK _ ?_; clear hK K)); try refine iC ?_)) | refine Cg _ (hsp) ?_)
    obtain ⟨h0, hh0⟩ : ∃ h0 : Lm, h0 = h := ⟨_, rfl⟩
    rw [← hh0] at hts
    refine IWP.atT (fun e s => Cr S M m n d t h0 w ⟨e, s⟩ ∧ e 155 = A1 w ∧ e 156 = AK w.length ∧ e 157 = AK 0 ∧ s 33 = none ∧ s 34 = none) ⟨⟨rfl, rfl, rfl, rfl, rfl, rfl, rfl, rfl, rfl, rfl, ?_, ?_, ?_, ?_, ?_, ?_, fun j hj => ?_⟩, rfl, rfl, rfl, ?_, ?_⟩ ?_
    ·simp only [go_sem, fN, seval, eT, iR]
    ·simp only [go_sem, fN, seval, eT, iR]
    ·simp only [go_sem, fN, seval, eT, iR]
    ·simp only [go_sem, fN, seval, eT, iR]
    ·simp only [go_sem, fN, seval, eT, iR]
    ·rw [hh0]
     simp only [go_sem, fN, seval, eT, iR, Bc, AB]
    ·simp only [go_sem, fN, seval, eT, iR, AZ, hj]
    ·simp only [go_sem, fN, seval, eT, iR, n33]
    ·simp only [go_sem, fN, seval, eT, iR, n34]
   all_goals
    rintro env0 S0 ⟨hI, e155, e156, e157, z33, z34⟩
    refine IWP.loopD [33, 34] (fun q s => ∃ (k g : Nat) (Kk : List Lm) (hk : Lm), k ≤ w.length ∧ q = w.length - k ∧ g ≤ f ∧ EW g m es n Kk (w.drop k) d t hk = some (K', x, b) ∧ Cr (BN S Kk) M m n d t hk w s ∧ s.env 155 = A1 w ∧ s.env 156 = AK w.length ∧ s.env 157 = AK k ∧ s.S 33 = none ∧ s.S 34 = none) w.length
     ⟨0, f, Kn, h0, Nat.zero_le _, rfl, Nat.le_refl _, hts, by rw [hself]; exact hI, e155, e156, e157, z33, z34⟩ ?_
    clear hI e155 e156 e157 z33 z34 hts hh0 h0
    rintro q ⟨env, S1⟩ ⟨k, g, Kk, h0, hk, rfl, hgf, hts, hI, e155, e156, e157, z33, z34⟩
    obtain ⟨e0, e1, e8, e9, e10, e11, e12, e16, e17, e18, s8, s9, s10, s11, s12, s17, sj⟩ := id hI
    simp only at e0 e1 e8 e9 e10 e11 e12 e16 e17 e18 s8 s9 s10 s11 s12 s17 sj e155 e156 e157 z33 z34
    have hcl : A7 (BN S Kk) := A4 (G := 2023) (KB := 2021) hS (by decide) (by decide)
    have sMM : BN S Kk M = some (Bb es) := by rw [DP hM1 hM2]; exact sM
    cases g with
    | zero => simp [EW] at hts
    | succ g =>
    by_cases hlt : (k : Int) < w.length
    ·obtain ⟨a, ha⟩ := Ak (show k < w.length by omega)
     have hdr : w.drop k = a :: w.drop (k + 1) := by
      obtain ⟨hlk, hak⟩ := List.getElem?_eq_some_iff.1 ha
      rw [List.drop_eq_getElem_cons hlk, hak]
     rw [hdr] at hts
     unfold EW at hts
     cases htp : HV g m es n Kk a d with
     | none => rw [htp] at hts; cases hts
     | some p =>
      obtain ⟨K2, xa, bo⟩ := p
      rw [htp] at hts
      have hc := ih g (by omega) (BN S Kk) Kk K2 M m n d es a xa bo htp hM hM1 hM2 FT Fi sMM
      rw [show BN (BN S Kk) K2 = BN S K2 from GM (by decide)] at hc
      repeat' with_reducible first | refine W ?_ | refine Z0 ?_ | ((first | refine Wo fun K hK => ?_ | refine Wp ?_ | refine Wq ?_ | refine Wr ?_); (try simp only [go_sem, fN, seval, eT, iR, e0, e1, e8, e9, e10, e11, e12, e155, e156, e157, s8, s9, s10, s11, s12, s17, z33, z34, hlt, ha, AB, dT, dF, nL]); (repeat refine Ai ?_); (try (refine hK _ ?_; clear hK K)); try refine iC ?_)
      refine CI (vs := [.one (.ptr 2023 1 0 0), AK m, .one (.mptr M), AK n, aLm a, AK d]) (by simp [Cn, outV, outC, stC, outCs]) (by simp [AV.highs, AV.high, AC.highs, AC.high, hM]) hcl (fun j hj => by have hj2 := sj j hj; (simp only [go_sem, fN, seval, eT, iR, AZ, hj, hj2])) hc ?_
      generalize hS2 : BI _ (BN S K2) = S2
      have u33 : S2 33 = some (Bc a) := by rw [← hS2, Az (by decide)]; (simp only [go_sem, fN, seval, eT, iR, AB])
      have u34 : S2 34 = none := by rw [← hS2, Az (by decide)]; (simp only [go_sem, fN, seval, eT, iR, z34])
      have u8 : S2 8 = some (.box 48 [.mptr M]) := by rw [← hS2, Az (by decide)]; (simp only [go_sem, fN, seval, eT, iR, s8])
      have u9 : S2 9 = some (.box 3 [.st (.int .i64 n)]) := by rw [← hS2, Az (by decide)]; (simp only [go_sem, fN, seval, eT, iR, s9])
      have u10 : S2 10 = some (Bc t) := by rw [← hS2, Az (by decide)]; (simp only [go_sem, fN, seval, eT, iR, s10])
      have u11 : S2 11 = some (.box 3 [.st (.int .i64 d)]) := by rw [← hS2, Az (by decide)]; (simp only [go_sem, fN, seval, eT, iR, s11])
      have u12 : S2 12 = some HH := by rw [← hS2, Az (by decide)]; (simp only [go_sem, fN, seval, eT, iR, s12])
      have u17 : S2 17 = some (Bc h0) := by rw [← hS2, Az (by decide)]; (simp only [go_sem, fN, seval, eT, iR, s17])
      have uj : ∀ j, 1000 ≤ j → S2 j = BN S K2 j := fun j hj => by rw [← hS2, Aq hj]
      clear hS2
      have hcl2 : A7 (BN S K2) := A4 (G := 2023) (KB := 2021) hS (by decide) (by decide)
      cases bo with
      | false =>
       simp only [Option.some.injEq, Prod.mk.injEq] at hts
       obtain ⟨rfl, rfl, rfl⟩ := hts
       repeat' with_reducible first | refine W ?_ | refine Z0 ?_ | ((first | refine Wo fun K hK => ?_ | refine Wp ?_ | refine Wq ?_ | refine Wr ?_); (try simp only [go_sem, fN, seval, eT, iR, e0, e1, e8, e9, e10, e11, e12, e155, e156, e157, u8, u9, u10, u11, u12, u17, u33, u34, hlt, ha, AB, dT, dF, nL]); (repeat refine Ai ?_); (try (refine hK _ ?_; clear hK K)); try refine iC ?_)
       refine Ab (.tup [aLm t, An false]) hcl2 trivial ?_ rfl fun j hj => ?_
       ·simp only [go_sem, fN, seval, eT, iR, AD, AE, AM, e12]
       ·have hj2 := uj j hj
        simp only [go_sem, fN, seval, eT, iR, AZ, hj, hj2]
      | true =>
       simp only at hts
       repeat' (first | (with_reducible first | refine W ?_ | refine Z0 ?_ | ((first | refine Wo fun K hK => ?_ | refine Wp ?_ | refine Wq ?_ | refine Wr ?_); (try simp only [go_sem, fN, seval, eT, iR, e0, e1, e8, e9, e10, e11, e12, e17, e155, e156, e157, u8, u9, u10, u11, u12, u17, u33, u34, hlt, ha, AB, dT, dF, nL]); (repeat refine Ai ?_); (try (refine hK _ ?_; clear hK K)); try refine iC ?_)) | refine Cg _ (PZ h0 xa) ?_)
       refine AH ⟨w.length - (k + 1), by omega, k + 1, g, K2, Lm.a h0 xa, by omega, rfl, by omega, hts, Cr.drop hcl2 hM (by decide) (by decide) ⟨e0, e1, e8, e9, e10, e11, e12, e16, e17, e18, u8, u9, u10, u11, u12, ?_, fun j hj => ?_⟩, ?_, ?_, ?_, ?_, ?_⟩
       ·simp only [go_sem, fN, seval, eT, iR, Bc, AB]
       ·have hj2 := uj j hj
        simp only [go_sem, fN, seval, eT, iR, AZ, hj, hj2]
       ·simp only [go_sem, fN, seval, AS.drop, AN, AC.clears, AC.clear, AC.highs, AC.high, Bool.not_false, Bool.true_and, Bool.and_self, AV.purge, AV.purges, AC.purge, AI.purge, List.contains_cons, List.contains_nil, Nat.reduceBEq, Bool.or_self, Bool.or_false, Bool.false_or, Bool.or_true, eT, iR, e155]
       ·simp only [go_sem, fN, seval, AS.drop, AN, AC.clears, AC.clear, AC.highs, AC.high, Bool.not_false, Bool.true_and, Bool.and_self, AV.purge, AV.purges, AC.purge, AI.purge, List.contains_cons, List.contains_nil, Nat.reduceBEq, Bool.or_self, Bool.or_false, Bool.false_or, Bool.or_true, eT, iR, e156]
       ·rfl
       ·rfl
       ·rfl
    ·have hke : k = w.length := by omega
     rw [hke, List.drop_length, EW] at hts
     simp only [Option.some.injEq, Prod.mk.injEq] at hts
     obtain ⟨rfl, rfl, rfl⟩ := hts
     repeat' with_reducible first | refine W ?_ | refine Z0 ?_ | ((first | refine Wo fun K hK => ?_ | refine Wp ?_ | refine Wq ?_ | refine Wr ?_); (try simp only [go_sem, fN, seval, eT, iR, e12, e17, e155, e156, e157, s12, s17, hlt, AB, dT, dF, nL]); (repeat refine Ai ?_); (try (refine hK _ ?_; clear hK K)); try refine iC ?_)
     refine Ab (.tup [aLm h0, An true]) hcl trivial ?_ rfl fun j hj => ?_
     ·simp only [go_sem, fN, seval, eT, iR, AD, AE, AM, e12]
     ·have hj2 := sj j hj
      simp only [go_sem, fN, seval, eT, iR, AZ, hj, hj2]

theorem KI : ∀ {x : List Lm} {k : Nat} {a : Lm} (i : Int) (es : List (Int × Int)), x[k]? = some a → atP i es (x.take (k + 1)) = EB (atP i es (x.take k)) a.idx (i + k)
 | [], _, _, _, _, h => by simp at h
 | x :: xs, 0, a, i, es, h1 => by
  simp only [List.getElem?_cons_zero, Option.some.injEq] at h1
  subst h1
  simp [atP]
 | x :: xs, k + 1, a, i, es, h1 => by
  rw [List.getElem?_cons_succ] at h1
  have ih := KI (i + 1) (EB es x.idx i) h1
  have e : i + 1 + (k : Int) = i + ((k + 1 : Nat) : Int) := by omega
  rw [e] at ih
  rw [List.take_succ_cons, List.take_succ_cons, atP, atP, ih]
theorem Jr : ∀ (es : List (Int × Int)) (k v : Int), (EB es k v).length ≤ es.length + 1
 | [], _, _ => by simp [EB]
 | p :: es, k, v => by
  unfold EB
  have := Jr es k v
  split <;> simp only [List.length_cons] <;> omega
abbrev CR (S : AA) (Kn : List Lm) : AA := Cx S 1023 1021 Kn
theorem In {S : AA} {Kn : List Lm} : CR S Kn 1023 = some (Ap 1021 Kn.length) := Gn (by decide)
theorem JA {S : AA} {Kn : List Lm} : CR S Kn 1021 = some (Aj Kn) := Gj
theorem Jc {S : AA} {i : Nat} {Kn : List Lm} (h1 : i ≠ 1023) (h2 : i ≠ 1021) : CR S Kn i = S i := EE h1 h2
theorem Gv {S : AA} {i : Nat} {b : Option AI} (h : S i = b) : AO S i b = S := by
 funext j
 by_cases e : j = i
 ·subst e; rw [AG, h]
 ·rw [AU _ e]
theorem OF {T : AA} {b : AI} {Kn K' : List Lm} (h : T 14 = some b) : upS (Bw T [(14, b, b), (1023, Ap 1021 Kn.length, Ap 1021 K'.length), (1021, Aj Kn, Aj K')]) = BN (upS T) K' := by
 show upS (AO (AO (AO T 14 (some b)) 1023 (some (Ap 1021 K'.length))) 1021 (some (Aj K'))) = _
 rw [Gv h, C7, C7]
 rfl
theorem LG (S : AA) (Kn K' : List Lm) (f : Nat) (m : Int) (x : List Lm) (t : Lm) (b : Bool) (hb : Ll f Kn m x t = some (K', b)) (sG : S 1023 = some (Ap 1021 Kn.length)) (sK : S 1021 = some (Aj Kn)) :
  Ag Tryd.prog 38 [.one (.ptr 1023 1 0 0), AK m, A1 x, aLm t] S (An b) (CR S K') := by
 unfold Ll at hb
 split at hb
 ·cases hb
 rename_i hc
 simp only [Decidable.not_not] at hc
 obtain ⟨hm0, hmK, hx1⟩ := hc
 obtain ⟨i, rfl⟩ : ∃ i : Nat, m = (i : Int) := ⟨m.toNat, by omega⟩
 rw [Int.toNat_natCast] at hb hmK
 have hxl : (x.map Ac).length = x.length := List.length_map _
 refine CG.acS fun hS C hC => ?_
 unfold BZ
 have n7 := AR hS (i := 7) (by omega)
 have n11 := AR hS (i := 11) (by omega)
 have n12 := AR hS (i := 12) (by omega)
 have n14 := AR hS (i := 14) (by omega)
 repeat' with_reducible first | refine W ?_ | refine Z0 ?_ | ((first | refine Wo fun K hK => ?_ | refine Wp ?_ | refine Wq ?_ | refine Wr ?_); (try simp only [go_sem, fN, seval, eT, iR, AS.startS, n7, n14, dT, dF, nL]); (repeat refine Ai ?_); (try (refine hK _ ?_; clear hK K)); try refine iC ?_)
 refine IWP.loopD [11] (fun q s => ∃ k, k ≤ x.length ∧ q = x.length - k ∧ s.env 0 = .one (.ptr 1023 1 0 0) ∧ s.env 1 = AK i ∧ s.env 2 = A1 x ∧ s.env 7 = .one (.ptr 7 1 0 0) ∧ s.env 9 = .one (.mptr 14) ∧ s.env 15 = A1 x ∧ s.env 16 = AK x.length ∧ s.env 17 = AK k ∧ s.S 7 = some (Bc t) ∧ s.S 14 = some (Bb (atP 0 [] (x.take k))) ∧ s.S 11 = none ∧ s.S 12 = none ∧ ∀ j, 1000 ≤ j → s.S j = S j) x.length
  ⟨0, Nat.zero_le _, rfl, rfl, rfl, rfl, rfl, rfl, rfl, rfl, rfl, by simp only [go_sem, fN, seval, eT, iR], by (simp only [go_sem, fN, seval, eT, iR]; rfl), by simp only [go_sem, fN, seval, eT, iR, n11], by simp only [go_sem, fN, seval, eT, iR, n12], fun j hj => by simp only [go_sem, fN, seval, eT, iR, AZ, hj]⟩ ?_
 rintro q ⟨env, S1⟩ ⟨k, hk, rfl, e0, e1, e2, e7, e9, e15, e16, e17, s7, s14, s11, s12, hS1⟩
 simp only at e0 e1 e2 e7 e9 e15 e16 e17 s7 s14 s11 s12 hS1
 by_cases hlt : (k : Int) < x.length
 ·obtain ⟨a, ha⟩ := Ak (show k < x.length by omega)
  have hsn := KI 0 [] ha
  generalize atP 0 [] (x.take k) = es at *
  have hp := Ee es a.idx k
  repeat' with_reducible first | refine W ?_ | refine Z0 ?_ | ((first | refine Wo fun K hK => ?_ | refine Wp ?_ | refine Wq ?_ | refine Wr ?_); (try simp only [go_sem, fN, seval, eT, iR, e0, e1, e2, e7, e9, e15, e16, e17, s7, s14, s11, hlt, ha, hp, By, Dz, KV.of, KV.of1, AB, dT, dF, nL]); (repeat refine Ai ?_); (try (refine hK _ ?_; clear hK K)); try refine iC ?_)
  refine AH ⟨x.length - (k + 1), by omega, k + 1, by omega, rfl, ?_, ?_, ?_, ?_, ?_, ?_, ?_, ?_, ?_, ?_, ?_, ?_, fun j hj => CT hS (by decide) hj ?_⟩
  ·simp only [go_sem, fN, seval, AS.drop, AN, AC.clears, AC.clear, AC.highs, AC.high, Bool.not_false, Bool.true_and, Bool.and_self, AV.purge, AV.purges, AC.purge, AI.purge, List.contains_cons, List.contains_nil, Nat.reduceBEq, Bool.or_self, Bool.or_false, Bool.false_or, Bool.or_true, eT, iR, e0]
  ·simp only [go_sem, fN, seval, AS.drop, AN, AC.clears, AC.clear, AC.highs, AC.high, Bool.not_false, Bool.true_and, Bool.and_self, AV.purge, AV.purges, AC.purge, AI.purge, List.contains_cons, List.contains_nil, Nat.reduceBEq, Bool.or_self, Bool.or_false, Bool.false_or, Bool.or_true, eT, iR, e1]
  ·simp only [go_sem, fN, seval, AS.drop, AN, AC.clears, AC.clear, AC.highs, AC.high, Bool.not_false, Bool.true_and, Bool.and_self, AV.purge, AV.purges, AC.purge, AI.purge, List.contains_cons, List.contains_nil, Nat.reduceBEq, Bool.or_self, Bool.or_false, Bool.false_or, Bool.or_true, eT, iR, e2]
  ·simp only [go_sem, fN, seval, AS.drop, AN, AC.clears, AC.clear, AC.highs, AC.high, Bool.not_false, Bool.true_and, Bool.and_self, AV.purge, AV.purges, AC.purge, AI.purge, List.contains_cons, List.contains_nil, Nat.reduceBEq, Bool.or_self, Bool.or_false, Bool.false_or, Bool.or_true, eT, iR, e7]
  ·simp only [go_sem, fN, seval, AS.drop, AN, AC.clears, AC.clear, AC.highs, AC.high, Bool.not_false, Bool.true_and, Bool.and_self, AV.purge, AV.purges, AC.purge, AI.purge, List.contains_cons, List.contains_nil, Nat.reduceBEq, Bool.or_self, Bool.or_false, Bool.false_or, Bool.or_true, eT, iR, e9]
  ·simp only [go_sem, fN, seval, AS.drop, AN, AC.clears, AC.clear, AC.highs, AC.high, Bool.not_false, Bool.true_and, Bool.and_self, AV.purge, AV.purges, AC.purge, AI.purge, List.contains_cons, List.contains_nil, Nat.reduceBEq, Bool.or_self, Bool.or_false, Bool.false_or, Bool.or_true, eT, iR, e15]
  ·simp only [go_sem, fN, seval, AS.drop, AN, AC.clears, AC.clear, AC.highs, AC.high, Bool.not_false, Bool.true_and, Bool.and_self, AV.purge, AV.purges, AC.purge, AI.purge, List.contains_cons, List.contains_nil, Nat.reduceBEq, Bool.or_self, Bool.or_false, Bool.false_or, Bool.or_true, eT, iR, e16]
  ·rfl
  ·simp only [go_sem, fN, seval, AS.drop, AN, AC.clears, AC.clear, AC.highs, AC.high, Bool.not_false, Bool.true_and, Bool.and_self, AV.purge, AV.purges, AC.purge, AI.purge, List.contains_cons, List.contains_nil, Nat.reduceBEq, Bool.or_self, Bool.or_false, Bool.false_or, Bool.or_true, eT, iR, s7]
  ·rw [hsn, Int.zero_add]
   simp only [go_sem, fN, seval, AS.drop, AN, AC.clears, AC.clear, AC.highs, AC.high, Bool.not_false, Bool.true_and, Bool.and_self, AV.purge, AV.purges, AC.purge, AI.purge, List.contains_cons, List.contains_nil, Nat.reduceBEq, Bool.or_self, Bool.or_false, Bool.false_or, Bool.or_true, eT, iR]
  ·rfl
  ·simp only [go_sem, fN, seval, AS.drop, AN, AC.clears, AC.clear, AC.highs, AC.high, Bool.not_false, Bool.true_and, Bool.and_self, AV.purge, AV.purges, AC.purge, AI.purge, List.contains_cons, List.contains_nil, Nat.reduceBEq, Bool.or_self, Bool.or_false, Bool.false_or, Bool.or_true, eT, iR, s12]
  ·have hj2 := hS1 j hj
   simp only [go_sem, fN, seval, eT, iR, AZ, hj, hj2]
 ·have hke : k = x.length := by omega
  rw [hke, List.take_length] at s14
  have h23 := (hS1 1023 (by omega)).trans sG
  have h21 := (hS1 1021 (by omega)).trans sK
  cases ht : HV f i (atP 0 [] x) x.length Kn t 0 with
  | none => rw [ht] at hb; cases hb
  | some p =>
   obtain ⟨K2, v, bo⟩ := p
   rw [ht] at hb
   generalize atP 0 [] x = es at *
   have hc : ∀ T : AA, EH T [(14, Bb es, Bb es), (1023, Ap 1021 Kn.length, Ap 1021 K2.length), (1021, Aj Kn, Aj K2)] → Ag Tryd.prog 63 [.one (.ptr 2023 1 0 0), AK i, .one (.mptr (up1 14)), AK x.length, aLm t, AK 0] (upS T) (.tup [aLm v, An bo]) (upS (Bw T [(14, Bb es, Bb es), (1023, Ap 1021 Kn.length, Ap 1021 K2.length), (1021, Aj Kn, Aj K2)])) := fun T hT => by
    have t14 := hT (14, Bb es, Bb es) (by simp)
    have t23 := hT (1023, Ap 1021 Kn.length, Ap 1021 K2.length) (by simp)
    have t21 := hT (1021, Aj Kn, Aj K2) (by simp)
    simp only at t14 t23 t21
    rw [OF t14]
    exact PD f (upS T) Kn K2 (up1 14) i x.length 0 es t v bo ht (BE _) (by decide) (by decide) (by show upS T (up1 1023) = _; rw [A_, t23]; rfl) (by show upS T (up1 1021) = _; rw [A_, t21]; rfl) (by rw [A_, t14]; exact OM es)
   repeat' with_reducible first | refine W ?_ | refine Z0 ?_ | ((first | refine Wo fun K hK => ?_ | refine Wp ?_ | refine Wq ?_ | refine Wr ?_); (try simp only [go_sem, fN, seval, eT, iR, e0, e1, e2, e7, e9, e15, e16, e17, s7, s14, s12, hlt, AB, dT, dF, nL]); (repeat refine Ai ?_); (try (refine hK _ ?_; clear hK K)); try refine iC ?_)
   refine ⟨_, _, (fun q hq => by
    simp only [List.mem_cons, List.not_mem_nil, or_false] at hq
    rcases hq with rfl | rfl | rfl
    ·exact s14
    ·exact h23
    ·exact h21), hc, ?_⟩
   have hsub : ∀ j, Bw S1 [(14, Bb es, Bb es), (1023, Ap 1021 Kn.length, Ap 1021 K2.length), (1021, Aj Kn, Aj K2)] j = if j = 1021 then some (Aj K2) else if j = 1023 then some (Ap 1021 K2.length) else S1 j := fun j => by
    show AO (AO (AO S1 14 (some (Bb es))) 1023 (some (Ap 1021 K2.length))) 1021 (some (Aj K2)) j = _
    rw [Gv s14]
    rfl
   generalize Bw S1 _ = S2 at hsub ⊢
   have u21 : S2 1021 = some (Aj K2) := by rw [hsub, if_pos rfl]
   have u23 : S2 1023 = some (Ap 1021 K2.length) := by rw [hsub, if_neg (by decide), if_pos rfl]
   have u7 : S2 7 = some (Bc t) := by rw [hsub, if_neg (by decide), if_neg (by decide), s7]
   have u12 : S2 12 = none := by rw [hsub, if_neg (by decide), if_neg (by decide), s12]
   have uj : ∀ j, 1000 ≤ j → j ≠ 1023 → j ≠ 1021 → S2 j = S j := fun j hj h1 h2 => by rw [hsub, if_neg h2, if_neg h1, hS1 j hj]
   have hK2l : (K2.map Ac).length = K2.length := List.length_map _
   cases bo with
   | false =>
    simp only [Option.some.injEq, Prod.mk.injEq] at hb
    obtain ⟨rfl, rfl⟩ := hb
    repeat' with_reducible first | refine W ?_ | refine Z0 ?_ | ((first | refine Wo fun K hK => ?_ | refine Wp ?_ | refine Wq ?_ | refine Wr ?_); (try simp only [go_sem, fN, seval, eT, iR, e0, e1, e2, e7, e9, e15, e16, e17, u21, u23, u7, u12, hlt, AB, dT, dF, nL]); (repeat refine Ai ?_); (try (refine hK _ ?_; clear hK K)); try refine iC ?_)
    refine Ab (An false) (A4 (G := 1023) (KB := 1021) hS (by decide) (by decide)) trivial ?_ rfl fun j hj => ?_
    ·simp only [go_sem, fN, seval, eT, iR, AD, AE, AM]
    ·by_cases h1 : j = 1021
     ·subst h1
      rw [JA]
      simp only [go_sem, fN, seval, eT, iR, u21]
     ·by_cases h2 : j = 1023
      ·subst h2
       rw [In]
       simp only [go_sem, fN, seval, eT, iR, u23]
      ·have hj2 := uj j hj h2 h1
       rw [Jc h2 h1]
       simp only [go_sem, fN, seval, eT, iR, AZ, hj, hj2]
   | true =>
    simp only at hb
    split at hb
    ·rename_i hiK
     simp only [Option.some.injEq, Prod.mk.injEq] at hb
     obtain ⟨rfl, rfl⟩ := hb
     have hc3 := Fz v x.length (by omega)
     generalize Bv v x.length = z at *
     obtain ⟨k0, hk0⟩ := Ak hiK
     repeat' (first | (with_reducible first | refine W ?_ | refine Z0 ?_ | ((first | refine Wo fun K hK => ?_ | refine Wp ?_ | refine Wq ?_ | refine Wr ?_); (try simp only [go_sem, fN, seval, eT, iR, e0, e1, e2, e7, e9, e15, e16, e17, u21, u23, u7, u12, hlt, hK2l, hiK, hk0, AB, dT, dF, nL]); (repeat refine Ai ?_); (try (refine hK _ ?_; clear hK K)); try refine iC ?_)) | refine Cg _ (hc3) ?_)
     refine Ab (An true) (A4 (G := 1023) (KB := 1021) hS (by decide) (by decide)) trivial ?_ rfl fun j hj => ?_
     ·simp only [go_sem, fN, seval, eT, iR, AD, AE, AM]
     ·by_cases h1 : j = 1021
      ·subst h1
       rw [JA]
       simp only [go_sem, fN, seval, eT, iR, Aj, List.map_set, AB]
      ·by_cases h2 : j = 1023
       ·subst h2
        rw [In, List.length_set]
        simp only [go_sem, fN, seval, eT, iR, u23]
       ·have hj2 := uj j hj h2 h1
        rw [Jc h2 h1]
        simp only [go_sem, fN, seval, eT, iR, AZ, hj, h1, hj2]
    ·cases hb

theorem ME {T : AA} {Kn K' : List Lm} : upS (Bw T [(1023, Ap 1021 Kn.length, Ap 1021 K'.length), (1021, Aj Kn, Aj K')]) = BN (upS T) K' := by
 show upS (AO (AO T 1023 (some (Ap 1021 K'.length))) 1021 (some (Aj K'))) = _
 rw [C7, C7]
 rfl
theorem Ov {Kn K' : List Lm} {b : Bool} {m : Int} {x y : List Lm} (hm : L7 Kn m x y = some (K', b)) (T : AA) (hT : EH T [(1023, Ap 1021 Kn.length, Ap 1021 K'.length), (1021, Aj Kn, Aj K')]) :
  Ag Tryd.prog 37 [.one (.ptr (up1 1023) 1 0 0), AK m, A1 x, A1 y] (upS T) (An b) (upS (Bw T [(1023, Ap 1021 Kn.length, Ap 1021 K'.length), (1021, Aj Kn, Aj K')])) := by
 have t23 := hT (1023, Ap 1021 Kn.length, Ap 1021 K'.length) (by simp)
 have t21 := hT (1021, Aj Kn, Aj K') (by simp)
 simp only at t23 t21
 rw [ME]
 exact PJ (upS T) Kn K' b m x y hm (by show upS T (up1 1023) = _; rw [A_, t23]; rfl) (by show upS T (up1 1021) = _; rw [A_, t21]; rfl)
def Po (f : Nat) : Prop := ∀ (S : AA) (Kn K' : List Lm) (a b : Lm) (r : Bool), FG f Kn a b = some (K', r) → S 1023 = some (Ap 1021 Kn.length) → S 1021 = some (Aj Kn) →
 Ag Tryd.prog 18 [.one (.ptr 1023 1 0 0), aLm a, aLm b] S (An r) (CR S K')
theorem PT (f : Nat) : Po f := by
 induction f using Nat.strongRecOn with
 | _ f ih =>
 intro S Kn K' a0 b0 r hj sG sK
 cases f with
 | zero => simp [FG] at hj
 | succ f =>
 unfold FG at hj
 cases hua : EI f Kn a0 with
 | none => rw [hua] at hj; simp at hj
 | some a =>
 cases hub : EI f Kn b0 with
 | none => rw [hua, hub] at hj; simp at hj
 | some b =>
 rw [hua, hub] at hj
 simp only at hj
 split at hj
 ·cases hj
 rename_i hok
 simp only [not_or, Bool.not_eq_false] at hok
 obtain ⟨hoka, hokb⟩ := hok
 obtain ⟨hgda, hsza⟩ := Cd hoka
 obtain ⟨hgdb, hszb⟩ := Cd hokb
 have hwfa := Hi hoka
 have hwfb := Hi hokb
 have hspa := Fh a hwfa hsza
 have hspb := Fh b hwfb hszb
 have hPa := Ct (P := Lm.good 1000000000) (fun t a h ha => Lm.good_sub h ha) hgda
 have hPb := Ct (P := Lm.good 1000000000) (fun t a h ha => Lm.good_sub h ha) hgdb
 have hlb : (Ao b).2.length ≤ 1000 := by
  have h : (Ao b).1.size + (Ao b).2.length ≤ b.size + ([] : List Lm).length := DR b.size b []
  simp only [List.length_nil] at h
  omega
 have hoa := OL a hwfa hgda (by omega)
 have hob := OL b hwfb hgdb (by omega)
 have hself : CR S Kn = S := E7 sG sK
 refine CD.acS fun hS C hC => ?_
 unfold BV
 have n4 := AR hS (i := 4) (by omega)
 have n5 := AR hS (i := 5) (by omega)
 have n7 := AR hS (i := 7) (by omega)
 have n9 := AR hS (i := 9) (by omega)
 have hK2l : (Kn.map Ac).length = Kn.length := List.length_map _
 repeat' with_reducible first | refine W ?_ | refine Z0 ?_ | ((first | refine Wo fun K hK => ?_ | refine Wp ?_ | refine Wq ?_ | refine Wr ?_); (try simp only [go_sem, fN, seval, eT, iR, AS.startS, n4, n5, dT, dF, nL]); (repeat refine Ai ?_); (try (refine hK _ ?_; clear hK K)); try refine iC ?_)
 refine ⟨_, [(1023, Ap 1021 Kn.length), (1021, Aj Kn)], Cw (by simp only [go_sem, fN, seval, eT, iR, sG]) (by simp only [go_sem, fN, seval, eT, iR, sK]), fun T hT => Iy T 1023 1021 Kn (hT (1023, Ap 1021 Kn.length) (by simp)) (hT (1021, Aj Kn) (by simp)) hua, ?_⟩
 repeat' with_reducible first | refine W ?_ | refine Z0 ?_ | ((first | refine Wo fun K hK => ?_ | refine Wp ?_ | refine Wq ?_ | refine Wr ?_); (try simp only [go_sem, fN, seval, eT, iR, AS.startS, n4, n5, dT, dF, nL]); (repeat refine Ai ?_); (try (refine hK _ ?_; clear hK K)); try refine iC ?_)
 refine ⟨_, [(1023, Ap 1021 Kn.length), (1021, Aj Kn)], Cw (by simp only [go_sem, fN, seval, eT, iR, sG]) (by simp only [go_sem, fN, seval, eT, iR, sK]), fun T hT => Iy T 1023 1021 Kn (hT (1023, Ap 1021 Kn.length) (by simp)) (hT (1021, Aj Kn) (by simp)) hub, ?_⟩
 have hlow : ∀ j, 1000 ≤ j → S j = S j := fun _ _ => rfl
 by_cases hk2 : a.kind = 2 ∨ b.kind = 2
 ·rw [if_pos hk2] at hj
  have hc := ih f (by omega) S Kn K' (EN a) (EN b) r hj sG sK
  generalize EN a = a1 at *
  generalize EN b = b1 at *
  by_cases hka : a.kind = 2
  case' pos =>
   have hkT := eq_true hka
   repeat' (first | (with_reducible first | refine W ?_ | refine Z0 ?_ | ((first | refine Wo fun K hK => ?_ | refine Wp ?_ | refine Wq ?_ | refine Wr ?_); (try simp only [go_sem, fN, seval, eT, iR, n7, n9, hkT, AB, dT, dF, nL]); (repeat refine Ai ?_); (try (refine hK _ ?_; clear hK K)); try refine iC ?_)) | refine Cg _ (hoa) ?_ | refine Cg _ (hob) ?_)
  case' neg =>
   have hkT := eq_true (hk2.resolve_left hka)
   repeat' (first | (with_reducible first | refine W ?_ | refine Z0 ?_ | ((first | refine Wo fun K hK => ?_ | refine Wp ?_ | refine Wq ?_ | refine Wr ?_); (try simp only [go_sem, fN, seval, eT, iR, n7, n9, hka, hkT, AB, dT, dF, nL]); (repeat refine Ai ?_); (try (refine hK _ ?_; clear hK K)); try refine iC ?_)) | refine Cg _ (hoa) ?_ | refine Cg _ (hob) ?_)
  all_goals
   refine CI (vs := [.one (.ptr 1023 1 0 0), aLm a1, aLm b1]) (by simp [Cn, outV, outC, stC, outCs]) rfl hS (fun j hj => by (simp only [go_sem, fN, seval, eT, iR, AZ, hj])) hc ?_
   repeat' with_reducible first | refine W ?_ | refine Z0 ?_ | ((first | refine Wo fun K hK => ?_ | refine Wp ?_ | refine Wq ?_ | refine Wr ?_); (try simp only [go_sem, fN, seval, eT, iR, dT, dF, nL]); (repeat refine Ai ?_); (try (refine hK _ ?_; clear hK K)); try refine iC ?_)
   refine Ab (An r) (A4 (G := 1023) (KB := 1021) hS (by decide) (by decide)) trivial ?_ rfl fun j hj => ?_
   ·simp only [go_sem, fN, seval, eT, iR, AD, AE, AM]
   ·show BI _ _ j = _
    rw [Aq hj]
 ·rw [if_neg hk2] at hj
  obtain ⟨hka, hkb⟩ := not_or.1 hk2
  generalize Ao a = pa at *
  generalize Ao b = pb at *
  obtain ⟨f1, xs⟩ := pa
  obtain ⟨g1, ys⟩ := pb
  simp only at hj hPa hPb hspa hspb hlb
  by_cases hf5 : f1.kind = 5
  ·have hf5T := eq_true hf5
   by_cases hg5 : g1.kind = 5
   ·have hg5T := eq_true hg5
    by_cases hix : f1.idx = g1.idx
    ·have hixT := eq_true hix
     rw [if_pos ⟨hf5, hg5, hix⟩] at hj
     have hc := Ov hj
     repeat' (first | (with_reducible first | refine W ?_ | refine Z0 ?_ | ((first | refine Wo fun K hK => ?_ | refine Wp ?_ | refine Wq ?_ | refine Wr ?_); (try simp only [go_sem, fN, seval, eT, iR, hka, hkb, n7, n9, hf5T, hg5T, hixT, AB, dT, dF, nL]); (repeat refine Ai ?_); (try (refine hK _ ?_; clear hK K)); try refine iC ?_)) | refine Cg _ (hspa) ?_ | refine Cg _ (hspb) ?_)
     refine ⟨_, _, (fun q hq => by
      simp only [List.mem_cons, List.not_mem_nil, or_false] at hq
      rcases hq with rfl | rfl
      ·exact sG
      ·exact sK), hc, ?_⟩
     repeat' with_reducible first | refine W ?_ | refine Z0 ?_ | ((first | refine Wo fun K hK => ?_ | refine Wp ?_ | refine Wq ?_ | refine Wr ?_); (try simp only [go_sem, fN, seval, eT, iR, dT, dF, nL]); (repeat refine Ai ?_); (try (refine hK _ ?_; clear hK K)); try refine iC ?_)
     refine Ab (An r) (A4 (G := 1023) (KB := 1021) hS (by decide) (by decide)) trivial ?_ rfl fun j hj => ?_
     ·simp only [go_sem, fN, seval, eT, iR, AD, AE, AM]
     ·simp only [CR, Cx, Bw]
      by_cases h1 : j = 1021
      ·simp only [go_sem, fN, seval, eT, iR, h1]
      ·by_cases h2 : j = 1023
       ·simp only [go_sem, fN, seval, eT, iR, h2]
       ·simp only [go_sem, fN, seval, eT, iR, AZ, hj, h1, h2]
    ·rw [if_neg (fun e => hix e.2.2), if_pos hf5] at hj
     have hc := LG S Kn K' f f1.idx xs b r hj sG sK
     repeat' (first | (with_reducible first | refine W ?_ | refine Z0 ?_ | ((first | refine Wo fun K hK => ?_ | refine Wp ?_ | refine Wq ?_ | refine Wr ?_); (try simp only [go_sem, fN, seval, eT, iR, hka, hkb, n7, n9, hf5T, hg5T, hix, AB, dT, dF, nL]); (repeat refine Ai ?_); (try (refine hK _ ?_; clear hK K)); try refine iC ?_)) | refine Cg _ (hspa) ?_ | refine Cg _ (hspb) ?_)
     refine CI (vs := [.one (.ptr 1023 1 0 0), AK f1.idx, A1 xs, aLm b]) (by simp [Cn, outV, outC, stC, outCs]) rfl hS (fun j hj => by (simp only [go_sem, fN, seval, eT, iR, AZ, hj])) hc ?_
     repeat' with_reducible first | refine W ?_ | refine Z0 ?_ | ((first | refine Wo fun K hK => ?_ | refine Wp ?_ | refine Wq ?_ | refine Wr ?_); (try simp only [go_sem, fN, seval, eT, iR, dT, dF, nL]); (repeat refine Ai ?_); (try (refine hK _ ?_; clear hK K)); try refine iC ?_)
     refine Ab (An r) (A4 (G := 1023) (KB := 1021) hS (by decide) (by decide)) trivial ?_ rfl fun j hj => ?_
     ·simp only [go_sem, fN, seval, eT, iR, AD, AE, AM]
     ·show BI _ _ j = _
      rw [Aq hj]
   ·rw [if_neg (fun e => hg5 e.2.1), if_pos hf5] at hj
    have hc := LG S Kn K' f f1.idx xs b r hj sG sK
    repeat' (first | (with_reducible first | refine W ?_ | refine Z0 ?_ | ((first | refine Wo fun K hK => ?_ | refine Wp ?_ | refine Wq ?_ | refine Wr ?_); (try simp only [go_sem, fN, seval, eT, iR, hka, hkb, n7, n9, hf5T, hg5, AB, dT, dF, nL]); (repeat refine Ai ?_); (try (refine hK _ ?_; clear hK K)); try refine iC ?_)) | refine Cg _ (hspa) ?_ | refine Cg _ (hspb) ?_)
    refine CI (vs := [.one (.ptr 1023 1 0 0), AK f1.idx, A1 xs, aLm b]) (by simp [Cn, outV, outC, stC, outCs]) rfl hS (fun j hj => by (simp only [go_sem, fN, seval, eT, iR, AZ, hj])) hc ?_
    repeat' with_reducible first | refine W ?_ | refine Z0 ?_ | ((first | refine Wo fun K hK => ?_ | refine Wp ?_ | refine Wq ?_ | refine Wr ?_); (try simp only [go_sem, fN, seval, eT, iR, dT, dF, nL]); (repeat refine Ai ?_); (try (refine hK _ ?_; clear hK K)); try refine iC ?_)
    refine Ab (An r) (A4 (G := 1023) (KB := 1021) hS (by decide) (by decide)) trivial ?_ rfl fun j hj => ?_
    ·simp only [go_sem, fN, seval, eT, iR, AD, AE, AM]
    ·show BI _ _ j = _
     rw [Aq hj]
  ·rw [if_neg (fun e => hf5 e.1), if_neg hf5] at hj
   by_cases hg5 : g1.kind = 5
   ·have hg5T := eq_true hg5
    rw [if_pos hg5] at hj
    have hc := LG S Kn K' f g1.idx ys a r hj sG sK
    repeat' (first | (with_reducible first | refine W ?_ | refine Z0 ?_ | ((first | refine Wo fun K hK => ?_ | refine Wp ?_ | refine Wq ?_ | refine Wr ?_); (try simp only [go_sem, fN, seval, eT, iR, hka, hkb, n7, n9, hf5, hg5T, AB, dT, dF, nL]); (repeat refine Ai ?_); (try (refine hK _ ?_; clear hK K)); try refine iC ?_)) | refine Cg _ (hspa) ?_ | refine Cg _ (hspb) ?_)
    refine CI (vs := [.one (.ptr 1023 1 0 0), AK g1.idx, A1 ys, aLm a]) (by simp [Cn, outV, outC, stC, outCs]) rfl hS (fun j hj => by (simp only [go_sem, fN, seval, eT, iR, AZ, hj])) hc ?_
    repeat' with_reducible first | refine W ?_ | refine Z0 ?_ | ((first | refine Wo fun K hK => ?_ | refine Wp ?_ | refine Wq ?_ | refine Wr ?_); (try simp only [go_sem, fN, seval, eT, iR, dT, dF, nL]); (repeat refine Ai ?_); (try (refine hK _ ?_; clear hK K)); try refine iC ?_)
    refine Ab (An r) (A4 (G := 1023) (KB := 1021) hS (by decide) (by decide)) trivial ?_ rfl fun j hj => ?_
    ·simp only [go_sem, fN, seval, eT, iR, AD, AE, AM]
    ·show BI _ _ j = _
     rw [Aq hj]
   ·rw [if_neg hg5] at hj
    by_cases hkk : f1.kind = g1.kind
    ·have hkkT := eq_true hkk
     by_cases hix : f1.idx = g1.idx
     ·have hixT := eq_true hix
      by_cases hll : xs.length = ys.length
      ·have hllT : ((xs.length : Nat) : Int) = ys.length := by omega
       rw [if_neg (fun e => e ⟨hkk, hix, hll⟩)] at hj
       repeat' (first | (with_reducible first | refine W ?_ | refine Z0 ?_ | ((first | refine Wo fun K hK => ?_ | refine Wp ?_ | refine Wq ?_ | refine Wr ?_); (try simp only [go_sem, fN, seval, eT, iR, hka, hkb, n7, n9, hf5, hg5, hkkT, hixT, hllT, AB, dT, dF, nL]); (repeat refine Ai ?_); (try (refine hK _ ?_; clear hK K)); try refine iC ?_)) | refine Cg _ (hspa) ?_ | refine Cg _ (hspb) ?_)
       refine IWP.atT (fun e s => e 0 = .one (.ptr 1023 1 0 0) ∧ e 8 = A1 xs ∧ e 10 = A1 ys ∧ e 104 = AK ys.length ∧ e 105 = AK 0 ∧ ∀ j, 1000 ≤ j → s j = S j) ⟨rfl, rfl, rfl, rfl, rfl, fun j hj => by (simp only [go_sem, fN, seval, eT, iR, AZ, hj])⟩ ?_
       rintro env0 S0 ⟨e0, e8, e10, e104, e105, sj⟩
       refine IWP.loop (fun q s => ∃ (k g : Nat) (Kk : List Lm), k ≤ ys.length ∧ q = ys.length - k ∧ g ≤ f ∧ HA g Kk (xs.drop k) (ys.drop k) = some (K', r) ∧ s.env 0 = .one (.ptr 1023 1 0 0) ∧ s.env 8 = A1 xs ∧ s.env 10 = A1 ys ∧ s.env 104 = AK ys.length ∧ s.env 105 = AK k ∧ ∀ j, 1000 ≤ j → s.S j = CR S Kk j) ys.length
        ⟨0, f, Kn, Nat.zero_le _, rfl, Nat.le_refl _, hj, e0, e8, e10, e104, e105, by rw [hself]; exact sj⟩ ?_
       clear hj e0 e8 e10 e104 e105 sj
       rintro q ⟨env, S1⟩ ⟨k, g, Kk, hk, rfl, hgf, hj, e0, e8, e10, e104, e105, sj⟩
       simp only at e0 e8 e10 e104 e105 sj
       have hcl : A7 (CR S Kk) := A4 (G := 1023) (KB := 1021) hS (by decide) (by decide)
       cases g with
       | zero => simp [HA] at hj
       | succ g =>
       by_cases hlt : (k : Int) < ys.length
       ·obtain ⟨y, hy⟩ := Ak (show k < ys.length by omega)
        obtain ⟨x, hx⟩ := Ak (show k < xs.length by omega)
        have hdx : xs.drop k = x :: xs.drop (k + 1) := by
         obtain ⟨hlk, hak⟩ := List.getElem?_eq_some_iff.1 hx
         rw [List.drop_eq_getElem_cons hlk, hak]
        have hdy : ys.drop k = y :: ys.drop (k + 1) := by
         obtain ⟨hlk, hak⟩ := List.getElem?_eq_some_iff.1 hy
         rw [List.drop_eq_getElem_cons hlk, hak]
        rw [hdx, hdy] at hj
        unfold HA at hj
        cases hjp : FG g Kk x y with
        | none => rw [hjp] at hj; cases hj
        | some p =>
         obtain ⟨K2, bo⟩ := p
         rw [hjp] at hj
         have hc := ih g (by omega) (CR S Kk) Kk K2 x y bo hjp In JA
         rw [show CR (CR S Kk) K2 = CR S K2 from GM (by decide)] at hc
         have hcl2 : A7 (CR S K2) := A4 (G := 1023) (KB := 1021) hS (by decide) (by decide)
         repeat' with_reducible first | refine W ?_ | refine Z0 ?_ | ((first | refine Wo fun K hK => ?_ | refine Wp ?_ | refine Wq ?_ | refine Wr ?_); (try simp only [go_sem, fN, seval, eT, iR, e0, e8, e10, e104, e105, hlt, hx, hy, AB, dT, dF, nL]); (repeat refine Ai ?_); (try (refine hK _ ?_; clear hK K)); try refine iC ?_)
         refine CI (vs := [.one (.ptr 1023 1 0 0), aLm x, aLm y]) (by simp [Cn, outV, outC, stC, outCs]) rfl hcl sj hc ?_
         have uj : ∀ j, 1000 ≤ j → BI S1 (CR S K2) j = CR S K2 j := fun j hj => Aq hj
         generalize BI S1 (CR S K2) = S2 at uj ⊢
         cases bo with
         | false =>
          simp only [Option.some.injEq, Prod.mk.injEq] at hj
          obtain ⟨rfl, rfl⟩ := hj
          repeat' with_reducible first | refine W ?_ | refine Z0 ?_ | ((first | refine Wo fun K hK => ?_ | refine Wp ?_ | refine Wq ?_ | refine Wr ?_); (try simp only [go_sem, fN, seval, eT, iR, e0, e8, e10, e104, e105, hlt, hx, hy, AB, dT, dF, nL]); (repeat refine Ai ?_); (try (refine hK _ ?_; clear hK K)); try refine iC ?_)
          refine Ab (An false) hcl2 trivial ?_ rfl uj
          simp only [go_sem, fN, seval, eT, iR, AD, AE, AM]
         | true =>
          simp only at hj
          repeat' with_reducible first | refine W ?_ | refine Z0 ?_ | ((first | refine Wo fun K hK => ?_ | refine Wp ?_ | refine Wq ?_ | refine Wr ?_); (try simp only [go_sem, fN, seval, eT, iR, e0, e8, e10, e104, e105, hlt, hx, hy, AB, dT, dF, nL]); (repeat refine Ai ?_); (try (refine hK _ ?_; clear hK K)); try refine iC ?_)
          exact AH ⟨ys.length - (k + 1), by omega, k + 1, g, K2, by omega, rfl, by omega, hj, e0, e8, e10, e104, rfl, uj⟩
       ·have hke : k = ys.length := by omega
        rw [hke, List.drop_length] at hj
        have hr : some (Kk, true) = some (K', r) := by
         cases hd : xs.drop ys.length <;> (rw [hd] at hj; exact hj)
        cases hr
        repeat' with_reducible first | refine W ?_ | refine Z0 ?_ | ((first | refine Wo fun K hK => ?_ | refine Wp ?_ | refine Wq ?_ | refine Wr ?_); (try simp only [go_sem, fN, seval, eT, iR, e0, e8, e10, e104, e105, hlt, dT, dF, nL]); (repeat refine Ai ?_); (try (refine hK _ ?_; clear hK K)); try refine iC ?_)
        refine Ab (An true) hcl trivial ?_ rfl sj
        simp only [go_sem, fN, seval, eT, iR, AD, AE, AM]
      ·have hllT : ¬ ((xs.length : Nat) : Int) = ys.length := by omega
       rw [if_pos (fun e => hll e.2.2)] at hj
       simp only [Option.some.injEq, Prod.mk.injEq] at hj
       obtain ⟨rfl, rfl⟩ := hj
       repeat' (first | (with_reducible first | refine W ?_ | refine Z0 ?_ | ((first | refine Wo fun K hK => ?_ | refine Wp ?_ | refine Wq ?_ | refine Wr ?_); (try simp only [go_sem, fN, seval, eT, iR, hka, hkb, n7, n9, hf5, hg5, hkkT, hixT, hllT, AB, dT, dF, nL]); (repeat refine Ai ?_); (try (refine hK _ ?_; clear hK K)); try refine iC ?_)) | refine Cg _ (hspa) ?_ | refine Cg _ (hspb) ?_)
       rw [hself]
       refine Ab (An false) hS trivial ?_ rfl fun j hj => ?_
       ·simp only [go_sem, fN, seval, eT, iR, AD, AE, AM]
       ·simp only [go_sem, fN, seval, eT, iR, AZ, hj]
     ·rw [if_pos (fun e => hix e.2.1)] at hj
      simp only [Option.some.injEq, Prod.mk.injEq] at hj
      obtain ⟨rfl, rfl⟩ := hj
      repeat' (first | (with_reducible first | refine W ?_ | refine Z0 ?_ | ((first | refine Wo fun K hK => ?_ | refine Wp ?_ | refine Wq ?_ | refine Wr ?_); (try simp only [go_sem, fN, seval, eT, iR, hka, hkb, n7, n9, hf5, hg5, hkkT, hix, AB, dT, dF, nL]); (repeat refine Ai ?_); (try (refine hK _ ?_; clear hK K)); try refine iC ?_)) | refine Cg _ (hspa) ?_ | refine Cg _ (hspb) ?_)
      rw [hself]
      refine Ab (An false) hS trivial ?_ rfl fun j hj => ?_
      ·simp only [go_sem, fN, seval, eT, iR, AD, AE, AM]
      ·simp only [go_sem, fN, seval, eT, iR, AZ, hj]
    ·rw [if_pos (fun e => hkk e.1)] at hj
     simp only [Option.some.injEq, Prod.mk.injEq] at hj
     obtain ⟨rfl, rfl⟩ := hj
     repeat' (first | (with_reducible first | refine W ?_ | refine Z0 ?_ | ((first | refine Wo fun K hK => ?_ | refine Wp ?_ | refine Wq ?_ | refine Wr ?_); (try simp only [go_sem, fN, seval, eT, iR, hka, hkb, n7, n9, hf5, hg5, hkk, AB, dT, dF, nL]); (repeat refine Ai ?_); (try (refine hK _ ?_; clear hK K)); try refine iC ?_)) | refine Cg _ (hspa) ?_ | refine Cg _ (hspb) ?_)
     rw [hself]
     refine Ab (An false) hS trivial ?_ rfl fun j hj => ?_
     ·simp only [go_sem, fN, seval, eT, iR, AD, AE, AM]
     ·simp only [go_sem, fN, seval, eT, iR, AZ, hj]

theorem GW : ∀ {f : Nat} {Kn ts l : List Lm}, Cm f Kn ts = some l → l.length = ts.length
 | 0, _, _, _, h => by simp [Cm] at h
 | f + 1, Kn, [], l, h => by simp [Cm] at h; subst h; rfl
 | f + 1, Kn, t :: ts, l, h => by
  unfold Cm at h
  split at h
  ·rename_i x l' h1 h2
   cases h
   simp [GW h2]
  ·cases h
theorem GR : ∀ {f : Nat} {Kn ts l : List Lm} {k : Nat} {a : Lm}, Cm f Kn ts = some l → ts[k]? = some a → ∃ g x, g < f ∧ ES g Kn a = some x ∧ l[k]? = some x
 | 0, _, _, _, _, _, h, _ => by simp [Cm] at h
 | f + 1, Kn, [], l, k, a, h, ha => by simp at ha
 | f + 1, Kn, t :: ts, l, k, a, h, ha => by
  unfold Cm at h
  split at h
  ·rename_i x l' h1 h2
   cases h
   cases k with
   | zero =>
    simp only [List.getElem?_cons_zero, Option.some.injEq] at ha
    subst ha
    exact ⟨f, x, by omega, h1, rfl⟩
   | succ k =>
    rw [List.getElem?_cons_succ] at ha
    obtain ⟨g, y, hg, h3, h4⟩ := GR h2 ha
    exact ⟨g, y, by omega, h3, by rw [List.getElem?_cons_succ]; exact h4⟩
  ·cases h
theorem I1 : ∀ {f : Nat} {Kn : List Lm} {t u : Lm}, EI f Kn t = some u → okL u = true
 | 0, _, _, _, h => by simp [EI] at h
 | f + 1, Kn, t, u, h => by
  unfold EI at h
  split at h
  ·cases h
  rename_i hok
  have hok : okL t = true := by simpa using hok
  split at h
  ·split at h
   ·cases h
   ·split at h
    ·cases h; exact hok
    ·exact I1 h
  ·split at h
   ·split at h
    ·cases h; exact hok
    ·split at h
     ·split at h
      ·exact I1 h
      ·cases h
     ·cases h
   ·cases h; exact hok
def Pi (f : Nat) : Prop := ∀ (S : AA) (G KB : Nat) (hG : 1000 ≤ G) (hKB : 1000 ≤ KB) (Kn : List Lm) (t u : Lm), ES f Kn t = some u → S G = some (Ap KB Kn.length) → S KB = some (Aj Kn) →
  Ag Tryd.prog 21 [.one (.ptr G 1 0 0), aLm t] S (aLm u) S
theorem Oz (f : Nat) : Pi f := by
 induction f using Nat.strongRecOn with
 | _ f ih =>
 intro S G KB hG hKB Kn t0 u hu sG sK
 cases f with
 | zero => simp [ES] at hu
 | succ f =>
 unfold ES at hu
 cases hut : EI f Kn t0 with
 | none => rw [hut] at hu; cases hu
 | some t =>
 rw [hut] at hu
 simp only [Option.map_eq_some_iff] at hu
 obtain ⟨l, hl, rfl⟩ := hu
 have hll := GW hl
 obtain ⟨hgd, hsz⟩ := Cd (I1 hut)
 have hlen := Lm.length_le t.subs
 have hse := Lm.size_eq t
 refine B_.acS fun hS C hC => ?_
 unfold BT
 have n3 := AR hS (i := 3) (by omega)
 have n4 := AR hS (i := 4) (by omega)
 have n5 := AR hS (i := 5) (by omega)
 have n7 := AR hS (i := 7) (by omega)
 have n70 := AR hS (i := 70) (by omega)
 have hrow : ∀ q ∈ [(G, Ap KB Kn.length), (KB, Aj Kn)], S q.1 = some q.2 := Cw sG sK
 repeat' with_reducible first | refine W ?_ | refine Z0 ?_ | ((first | refine Wo fun K hK => ?_ | refine Wp ?_ | refine Wq ?_ | refine Wr ?_); (try simp only [go_sem, fN, seval, eT, iR, AS.startS, n3, n4, AZ, hG, dT, dF, nL]); (repeat refine Ai ?_); (try (refine hK _ ?_; clear hK K)); try refine iC ?_)
 refine ⟨_, [(G, Ap KB Kn.length), (KB, Aj Kn)], Cw (by simp only [go_sem, fN, seval, eT, iR, AZ, hG, sG]) (by simp only [go_sem, fN, seval, eT, iR, AZ, hKB, sK]), fun T hT => Iy T G KB Kn (hT (G, Ap KB Kn.length) (by simp)) (hT (KB, Aj Kn) (by simp)) hut, ?_⟩
 repeat' with_reducible first | refine W ?_ | refine Z0 ?_ | ((first | refine Wo fun K hK => ?_ | refine Wp ?_ | refine Wq ?_ | refine Wr ?_); (try simp only [go_sem, fN, seval, eT, iR, n5, dT, dF, nL]); (repeat refine Ai ?_); (try (refine hK _ ?_; clear hK K)); try refine iC ?_)
 refine IWP.ghost (As.ownC 5 2 70 24 3 (xs := ([] : List Lm).map Ac) rfl rfl (by simp only [go_sem, fN, seval, eT, iR, n70]) Bn) ?_
 refine IWP.loopD [7] (fun q s => ∃ k, k ≤ t.subs.length ∧ q = t.subs.length - k ∧ s.env 0 = .one (.ptr G 1 0 0) ∧ s.env 4 = .one (.ptr 4 1 0 0) ∧ s.env 5 = .one (.ptr 5 1 0 0) ∧ s.env 17 = A1 t.subs ∧ s.env 18 = AK t.subs.length ∧ s.env 19 = AK k ∧ s.S 4 = some HH
   ∧ s.S 5 = some (.box 24 [.st (.int .i64 t.kind), .st (.int .i64 t.idx), .row 70 k]) ∧ s.S 70 = some (.arow 24 3 ((l.take k).map Ac)) ∧ s.S 7 = none ∧ ∀ j, 1000 ≤ j → s.S j = S j) t.subs.length
  ⟨0, Nat.zero_le _, rfl, rfl, rfl, rfl, rfl, rfl, rfl, by simp only [go_sem, fN, seval, eT, iR], rfl, by simp only [go_sem, fN, seval, eT, iR], by simp only [go_sem, fN, seval, eT, iR, n7], fun j hj => by simp only [go_sem, fN, seval, eT, iR, AZ, hj]⟩ ?_
 rintro q ⟨env, S1⟩ ⟨k, hk, rfl, e0, e4, e5, e17, e18, e19, s4, s5, s70, s7, sj⟩
 simp only at e0 e4 e5 e17 e18 e19 s4 s5 s70 s7 sj
 have hlk : ((l.take k).map Ac).length = k := by rw [List.length_map, List.length_take]; omega
 by_cases hlt : (k : Int) < t.subs.length
 ·obtain ⟨a, ha⟩ := Ak (show k < t.subs.length by omega)
  obtain ⟨g, y, hg, hy, hly⟩ := GR hl ha
  have hsn : (l.take (k + 1)).map Ac = (l.take k).map Ac ++ [Ac y] := by rw [Al hly]; simp
  have t23 := (sj G hG).trans sG
  have t21 := (sj KB hKB).trans sK
  repeat' with_reducible first | refine W ?_ | refine Z0 ?_ | ((first | refine Wo fun K hK => ?_ | refine Wp ?_ | refine Wq ?_ | refine Wr ?_); (try simp only [go_sem, fN, seval, eT, iR, e0, e4, e5, e17, e18, e19, s4, s5, s70, s7, hlt, ha, AB, dT, dF, nL]); (repeat refine Ai ?_); (try (refine hK _ ?_; clear hK K)); try refine iC ?_)
  refine ⟨_, [(G, Ap KB Kn.length), (KB, Aj Kn)], Cw (by simp only [go_sem, fN, seval, eT, iR, AZ, hG, t23]) (by simp only [go_sem, fN, seval, eT, iR, AZ, hKB, t21]), fun T hT => ih g (by omega) (upS T) (up1 G) (up1 KB) (BE _) (BE _) Kn a y hy (by rw [A_, hT (G, Ap KB Kn.length) (by simp)]; rfl) (by rw [A_, hT (KB, Aj Kn) (by simp)]; rfl), ?_⟩
  repeat' with_reducible first | refine W ?_ | refine Z0 ?_ | ((first | refine Wo fun K hK => ?_ | refine Wp ?_ | refine Wq ?_ | refine Wr ?_); (try simp only [go_sem, fN, seval, eT, iR, e0, e4, e5, e17, e18, e19, s4, s5, s70, s7, hlt, ha, hlk, AB, dT, dF, nL]); (repeat refine Ai ?_); (try (refine hK _ ?_; clear hK K)); try refine iC ?_)
  refine AH ⟨t.subs.length - (k + 1), by omega, k + 1, by omega, rfl, ?_, ?_, ?_, ?_, ?_, rfl, ?_, ?_, ?_, rfl, fun j hj => CT hS (by decide) hj ?_⟩
  ·simp only [go_sem, fN, seval, AS.drop, AN, AC.clears, AC.clear, AC.highs, AC.high, Bool.not_false, Bool.true_and, Bool.and_self, AV.purge, AV.purges, AC.purge, AI.purge, List.contains_cons, List.contains_nil, Nat.reduceBEq, Bool.or_self, Bool.or_false, Bool.false_or, Bool.or_true, eT, iR, e0, GA, hG]
  ·simp only [go_sem, fN, seval, AS.drop, AN, AC.clears, AC.clear, AC.highs, AC.high, Bool.not_false, Bool.true_and, Bool.and_self, AV.purge, AV.purges, AC.purge, AI.purge, List.contains_cons, List.contains_nil, Nat.reduceBEq, Bool.or_self, Bool.or_false, Bool.false_or, Bool.or_true, eT, iR, e4]
  ·simp only [go_sem, fN, seval, AS.drop, AN, AC.clears, AC.clear, AC.highs, AC.high, Bool.not_false, Bool.true_and, Bool.and_self, AV.purge, AV.purges, AC.purge, AI.purge, List.contains_cons, List.contains_nil, Nat.reduceBEq, Bool.or_self, Bool.or_false, Bool.false_or, Bool.or_true, eT, iR, e5]
  ·simp only [go_sem, fN, seval, AS.drop, AN, AC.clears, AC.clear, AC.highs, AC.high, Bool.not_false, Bool.true_and, Bool.and_self, AV.purge, AV.purges, AC.purge, AI.purge, List.contains_cons, List.contains_nil, Nat.reduceBEq, Bool.or_self, Bool.or_false, Bool.false_or, Bool.or_true, eT, iR, e17]
  ·simp only [go_sem, fN, seval, AS.drop, AN, AC.clears, AC.clear, AC.highs, AC.high, Bool.not_false, Bool.true_and, Bool.and_self, AV.purge, AV.purges, AC.purge, AI.purge, List.contains_cons, List.contains_nil, Nat.reduceBEq, Bool.or_self, Bool.or_false, Bool.false_or, Bool.or_true, eT, iR, e18]
  ·simp only [go_sem, fN, seval, AS.drop, AN, AC.clears, AC.clear, AC.highs, AC.high, Bool.not_false, Bool.true_and, Bool.and_self, AV.purge, AV.purges, AC.purge, AI.purge, List.contains_cons, List.contains_nil, Nat.reduceBEq, Bool.or_self, Bool.or_false, Bool.false_or, Bool.or_true, eT, iR, s4]
  ·simp only [go_sem, fN, seval, AS.drop, AN, AC.clears, AC.clear, AC.highs, AC.high, Bool.not_false, Bool.true_and, Bool.and_self, AV.purge, AV.purges, AC.purge, AI.purge, List.contains_cons, List.contains_nil, Nat.reduceBEq, Bool.or_self, Bool.or_false, Bool.false_or, Bool.or_true, eT, iR]
  ·rw [hsn]
   simp only [go_sem, fN, seval, AS.drop, AN, AC.clears, AC.clear, AC.highs, AC.high, Bool.not_false, Bool.true_and, Bool.and_self, AV.purge, AV.purges, AC.purge, AI.purge, List.contains_cons, List.contains_nil, Nat.reduceBEq, Bool.or_self, Bool.or_false, Bool.false_or, Bool.or_true, eT, iR, AB]
  ·have hj2 := sj j hj
   simp only [go_sem, fN, seval, eT, iR, AZ, hj, hj2]
 ·have hke : k = t.subs.length := by omega
  rw [List.take_of_length_le (by omega)] at s70 hlk
  rw [hke] at s5
  repeat' with_reducible first | refine W ?_ | refine Z0 ?_ | ((first | refine Wo fun K hK => ?_ | refine Wp ?_ | refine Wq ?_ | refine Wr ?_); (try simp only [go_sem, fN, seval, eT, iR, e0, e4, e5, e17, e18, e19, s4, s5, s70, s7, hlt, AB, dT, dF, nL]); (repeat refine Ai ?_); (try (refine hK _ ?_; clear hK K)); try refine iC ?_)
  refine Ab (.agg [.st (.int .i64 t.kind), .st (.int .i64 t.idx), .row 70 t.subs.length]) hS trivial ?_ ?_ fun j hj => ?_
  ·simp only [go_sem, fN, seval, eT, iR, AD, AE, AM, e4]
  ·simp only [go_sem, fN, seval, eT, iR, s70, hlk, hke]
   rfl
  ·have hj2 := sj j hj
   simp only [go_sem, fN, seval, eT, iR, AZ, hj, hj2]
def nmE (t : Lm) (es : List (Int × Int)) : List (Int × Int) := if t.kind = 5 then H9 es t.idx else es
def nmI (t : Lm) (es : List (Int × Int)) : Int := if t.kind = 5 then (D3 (H9 es t.idx) t.idx).getD 0 else t.idx
theorem Nf (t : Lm) (es : List (Int × Int)) : nmP t es = (.mk t.kind (nmI t es) (CO t.subs (nmE t es)).1, (CO t.subs (nmE t es)).2) := by
 cases t with
 | mk k i xs =>
  unfold nmP nmI nmE
  simp only [Lm.kind_mk, Lm.idx_mk, Lm.subs_mk]
  by_cases h : k = 5 <;> simp [h]
theorem Ig : ∀ (xs : List Lm) (a : Lm) (es : List (Int × Int)), CO (xs ++ [a]) es = ((CO xs es).1 ++ [(nmP a (CO xs es).2).1], (nmP a (CO xs es).2).2)
 | [], a, es => by simp [CO]
 | x :: xs, a, es => by
  rw [List.cons_append, CO, Ig xs a, CO]
  rfl
theorem Ia : ∀ (xs : List Lm) (es : List (Int × Int)), (CO xs es).1.length = xs.length
 | [], es => by simp [CO]
 | x :: xs, es => by rw [CO]; simp [Ia xs]
theorem Le (t : Lm) (es : List (Int × Int)) : (nmE t es).length ≤ es.length + 1 := by
 unfold nmE H9
 have := Jr es t.idx es.length
 split
 ·split <;> omega
 ·omega
mutual
theorem L3 : ∀ (t : Lm) (es : List (Int × Int)), (nmP t es).2.length ≤ es.length + t.size
 | .mk k i xs, es => by
  rw [Nf]
  have h1 := Le (.mk k i xs) es
  have h2 := HC xs (nmE (.mk k i xs) es)
  have h3 := Lm.size_eq (.mk k i xs)
  rw [Lm.subs_mk] at h3 ⊢
  simp only
  omega
theorem HC : ∀ (xs : List Lm) (es : List (Int × Int)), (CO xs es).2.length ≤ es.length + Lm.sizes xs
 | [], es => by simp [CO]
 | x :: xs, es => by
  rw [CO, Lm.sizes]
  have h1 := L3 x es
  have h2 := HC xs (nmP x es).2
  simp only
  omega
end
theorem Hn : ∀ (es : List (Int × Int)) (k v : Int), D3 (EB es k v) k = some v
 | [], k, v => by simp [EB, D3]
 | p :: es, k, v => by
  unfold EB
  split
  ·rename_i h; rw [D3, if_pos h]
  ·rename_i h; rw [D3, if_neg h]; exact Hn es k v
theorem O3 (t : Lm) (hz : t.size ≤ 100000) : ∀ (M : Nat) (es : List (Int × Int)) (S : AA), 1000 ≤ M → es.length + t.size ≤ 900000 → S M = some (Bb es) →
  Ag Tryd.prog 19 [aLm t, .one (.mptr M)] S (aLm (nmP t es).1) (AO S M (some (Bb (nmP t es).2))) := by
 induction h : SizeOf.sizeOf t using Nat.strongRecOn generalizing t with
 | _ N ih =>
 subst h
 intro M es S hM hl sM
 have hs := Lm.size_eq t
 have hlen := Lm.length_le t.subs
 refine Fq.acS fun hS C hC => ?_
 unfold DC
 have n2 := AR hS (i := 2) (by omega)
 have n4 := AR hS (i := 4) (by omega)
 have n5 := AR hS (i := 5) (by omega)
 have n9 := AR hS (i := 9) (by omega)
 have n70 := AR hS (i := 70) (by omega)
 rw [Nf]
 have hE := Le t es
 have hml : (es.map fun p => ((.i p.1 : KV), AK p.2)).length = es.length := List.length_map _
 by_cases hk5 : t.kind = 5
 case' pos =>
  have hk5T := eq_true hk5
  have hg := DD es t.idx
  have hp := Ee es t.idx es.length
  cases hgk : D3 es t.idx
  case' some k =>
   rw [hgk] at hg
   have hEe : nmE t es = es := by unfold nmE H9; rw [if_pos hk5, hgk]; rfl
   have hIi : nmI t es = k := by unfold nmI H9; rw [if_pos hk5, hgk]; simp [hgk]
   repeat' with_reducible first | refine W ?_ | refine Z0 ?_ | ((first | refine Wo fun K hK => ?_ | refine Wp ?_ | refine Wq ?_ | refine Wr ?_); (try simp only [go_sem, fN, seval, eT, iR, AS.startS, n2, n4, n5, sM, hM, AZ, BM, hk5T, hg, FZ, By, Dz, KV.of, KV.of1, dT, dF, nL]); (repeat refine Ai ?_); (try (refine hK _ ?_; clear hK K)); try refine iC ?_)
   refine IWP.atT (fun e s => e 1 = .one (.mptr M) ∧ e 4 = .one (.ptr 4 1 0 0) ∧ e 5 = .one (.ptr 5 1 0 0) ∧ e 38 = A1 t.subs ∧ e 39 = AK t.subs.length ∧ e 40 = AK 0 ∧ s 4 = some HH ∧ s 5 = some (.box 24 [.st (.int .i64 t.kind), .st (.int .i64 (nmI t es)), .full []]) ∧ s M = some (Bb (nmE t es)) ∧ s 9 = none ∧ s 70 = none ∧ ∀ j, 1000 ≤ j → j ≠ M → s j = S j)
    ⟨rfl, rfl, rfl, rfl, rfl, rfl, by (simp only [go_sem, fN, seval, eT, iR, BM, hM]), by (rw [hIi]; (simp only [go_sem, fN, seval, eT, iR, BM, hM])), by (rw [hEe]; (simp only [go_sem, fN, seval, eT, iR, BM, AZ, hM, sM])), by (simp only [go_sem, fN, seval, eT, iR, BM, hM, n9]), by (simp only [go_sem, fN, seval, eT, iR, BM, hM, n70]), fun j hj hjM => by (simp only [go_sem, fN, seval, eT, iR, AZ, hj, hjM])⟩ ?_
  case' none =>
   rw [hgk] at hg
   have hEe : nmE t es = EB es t.idx es.length := by unfold nmE H9; rw [if_pos hk5, hgk]; rfl
   have hIi : nmI t es = es.length := by unfold nmI H9; rw [if_pos hk5, hgk]; simp [Hn]
   have hg2 := DD (EB es t.idx es.length) t.idx
   rw [Hn] at hg2
   repeat' with_reducible first | refine W ?_ | refine Z0 ?_ | ((first | refine Wo fun K hK => ?_ | refine Wp ?_ | refine Wq ?_ | refine Wr ?_); (try simp only [go_sem, fN, seval, eT, iR, AS.startS, n2, n4, n5, sM, hM, AZ, BM, hk5T, hg, hg2, hp, hml, FZ, By, Dz, KV.of, KV.of1, dT, dF, nL]); (repeat refine Ai ?_); (try (refine hK _ ?_; clear hK K)); try refine iC ?_)
   refine IWP.atT (fun e s => e 1 = .one (.mptr M) ∧ e 4 = .one (.ptr 4 1 0 0) ∧ e 5 = .one (.ptr 5 1 0 0) ∧ e 38 = A1 t.subs ∧ e 39 = AK t.subs.length ∧ e 40 = AK 0 ∧ s 4 = some HH ∧ s 5 = some (.box 24 [.st (.int .i64 t.kind), .st (.int .i64 (nmI t es)), .full []]) ∧ s M = some (Bb (nmE t es)) ∧ s 9 = none ∧ s 70 = none ∧ ∀ j, 1000 ≤ j → j ≠ M → s j = S j)
    ⟨rfl, rfl, rfl, rfl, rfl, rfl, by (simp only [go_sem, fN, seval, eT, iR, BM, hM]), by (rw [hIi]; (simp only [go_sem, fN, seval, eT, iR, BM, hM])), by (rw [hEe]; (simp only [go_sem, fN, seval, eT, iR, BM, AZ, hM, sM])), by (simp only [go_sem, fN, seval, eT, iR, BM, hM, n9]), by (simp only [go_sem, fN, seval, eT, iR, BM, hM, n70]), fun j hj hjM => by (simp only [go_sem, fN, seval, eT, iR, AZ, hj, hjM])⟩ ?_
 case' neg =>
  have hEe : nmE t es = es := by unfold nmE; rw [if_neg hk5]
  have hIi : nmI t es = t.idx := by unfold nmI; rw [if_neg hk5]
  repeat' with_reducible first | refine W ?_ | refine Z0 ?_ | ((first | refine Wo fun K hK => ?_ | refine Wp ?_ | refine Wq ?_ | refine Wr ?_); (try simp only [go_sem, fN, seval, eT, iR, AS.startS, n2, n4, n5, sM, hM, AZ, BM, hk5, dT, dF, nL]); (repeat refine Ai ?_); (try (refine hK _ ?_; clear hK K)); try refine iC ?_)
  refine IWP.atT (fun e s => e 1 = .one (.mptr M) ∧ e 4 = .one (.ptr 4 1 0 0) ∧ e 5 = .one (.ptr 5 1 0 0) ∧ e 38 = A1 t.subs ∧ e 39 = AK t.subs.length ∧ e 40 = AK 0 ∧ s 4 = some HH ∧ s 5 = some (.box 24 [.st (.int .i64 t.kind), .st (.int .i64 (nmI t es)), .full []]) ∧ s M = some (Bb (nmE t es)) ∧ s 9 = none ∧ s 70 = none ∧ ∀ j, 1000 ≤ j → j ≠ M → s j = S j)
   ⟨rfl, rfl, rfl, rfl, rfl, rfl, by (simp only [go_sem, fN, seval, eT, iR, BM, hM]), by (rw [hIi]; (simp only [go_sem, fN, seval, eT, iR, BM, hM])), by (rw [hEe]; (simp only [go_sem, fN, seval, eT, iR, BM, AZ, hM, sM])), by (simp only [go_sem, fN, seval, eT, iR, BM, hM, n9]), by (simp only [go_sem, fN, seval, eT, iR, BM, hM, n70]), fun j hj hjM => by (simp only [go_sem, fN, seval, eT, iR, AZ, hj, hjM])⟩ ?_
 all_goals
  rintro env0 S0 ⟨e1, e4, e5, e38, e39, e40, s4, s5, sMM, s9, s70, sj⟩
  refine IWP.ghost (As.ownC 5 2 70 24 3 (xs := ([] : List Lm).map Ac) s5 rfl s70 Bn) ?_
  refine IWP.loopD [9] (fun q s => ∃ k, k ≤ t.subs.length ∧ q = t.subs.length - k ∧ s.env 1 = .one (.mptr M) ∧ s.env 4 = .one (.ptr 4 1 0 0) ∧ s.env 5 = .one (.ptr 5 1 0 0) ∧ s.env 38 = A1 t.subs ∧ s.env 39 = AK t.subs.length ∧ s.env 40 = AK k ∧ s.S 4 = some HH
    ∧ s.S 5 = some (.box 24 [.st (.int .i64 t.kind), .st (.int .i64 (nmI t es)), .row 70 k]) ∧ s.S 70 = some (.arow 24 3 ((CO (t.subs.take k) (nmE t es)).1.map Ac)) ∧ s.S 9 = none ∧ s.S M = some (Bb (CO (t.subs.take k) (nmE t es)).2) ∧ ∀ j, 1000 ≤ j → j ≠ M → s.S j = S j) t.subs.length
   ⟨0, Nat.zero_le _, rfl, e1, e4, e5, e38, e39, e40, by (simp only [go_sem, fN, seval, eT, iR, s4]), by (simp only [go_sem, fN, seval, eT, iR]; rfl), by (simp only [go_sem, fN, seval, eT, iR, CO]), by (simp only [go_sem, fN, seval, eT, iR, s9]), by (simp only [go_sem, fN, seval, eT, iR, AZ, hM, sMM, CO]), fun j hj hjM => by (have hj2 := sj j hj hjM; (simp only [go_sem, fN, seval, eT, iR, AZ, hj, hj2]))⟩ ?_
  clear e1 e4 e5 e38 e39 e40 s4 s5 sMM s9 s70 sj
  rintro q ⟨env, S1⟩ ⟨k, hk, rfl, e1, e4, e5, e38, e39, e40, s4, s5, s70, s9, sMM, sj⟩
  simp only at e1 e4 e5 e38 e39 e40 s4 s5 s70 s9 sMM sj
  have hlk : ((CO (t.subs.take k) (nmE t es)).1.map Ac).length = k := by rw [List.length_map, Ia, List.length_take]; omega
  by_cases hlt : (k : Int) < t.subs.length
  ·obtain ⟨a, ha⟩ := Ak (show k < t.subs.length by omega)
   have hz1 := Lm.sizes_take ha
   have hz2 := Lm.sizes_take_le t.subs (k + 1)
   have hml2 := HC (t.subs.take k) (nmE t es)
   have hsn := Ig (t.subs.take k) a (nmE t es)
   rw [← Al ha] at hsn
   generalize hsn' : CO (t.subs.take (k + 1)) (nmE t es) = X' at *
   generalize CO (t.subs.take k) (nmE t es) = X at *
   obtain ⟨L, E⟩ := X
   simp only at hml2 hlk s70 sMM hsn
   subst hsn
   repeat' with_reducible first | refine W ?_ | refine Z0 ?_ | ((first | refine Wo fun K hK => ?_ | refine Wp ?_ | refine Wq ?_ | refine Wr ?_); (try simp only [go_sem, fN, seval, eT, iR, e1, e4, e5, e38, e39, e40, s4, s5, s70, s9, sMM, hlt, ha, AB, dT, dF, nL]); (repeat refine Ai ?_); (try (refine hK _ ?_; clear hK K)); try refine iC ?_)
   refine ⟨_, _, ih _ (Lm.lt_of_sub (AJ ha)) a (by omega) rfl (up1 M) E _ (BE M) (by omega) (by rw [A_]; (simp only [go_sem, fN, seval, eT, iR, AZ, hM, sMM])), ?_⟩
   generalize nmP a E = Y at *
   obtain ⟨y, E2⟩ := Y
   repeat' with_reducible first | refine W ?_ | refine Z0 ?_ | ((first | refine Wo fun K hK => ?_ | refine Wp ?_ | refine Wq ?_ | refine Wr ?_); (try simp only [go_sem, fN, seval, eT, iR, e1, e4, e5, e38, e39, e40, s4, s5, s70, s9, sMM, hlt, ha, hlk, hM, AZ, BM, AB, dT, dF, nL]); (repeat refine Ai ?_); (try (refine hK _ ?_; clear hK K)); try refine iC ?_)
   refine AH ⟨t.subs.length - (k + 1), by omega, k + 1, by omega, rfl, ?_, ?_, ?_, ?_, ?_, rfl, ?_, ?_, ?_, ?_, ?_, fun j hj hjM => CT hS (by decide) hj ?_⟩
   ·simp only [go_sem, fN, seval, AS.drop, AN, AC.clears, AC.clear, AC.highs, AC.high, Bool.not_false, Bool.true_and, Bool.and_self, AV.purge, AV.purges, AC.purge, AI.purge, List.contains_cons, List.contains_nil, Nat.reduceBEq, Bool.or_self, Bool.or_false, Bool.false_or, Bool.or_true, eT, iR, e1, GA, hM]
   ·simp only [go_sem, fN, seval, AS.drop, AN, AC.clears, AC.clear, AC.highs, AC.high, Bool.not_false, Bool.true_and, Bool.and_self, AV.purge, AV.purges, AC.purge, AI.purge, List.contains_cons, List.contains_nil, Nat.reduceBEq, Bool.or_self, Bool.or_false, Bool.false_or, Bool.or_true, eT, iR, e4]
   ·simp only [go_sem, fN, seval, AS.drop, AN, AC.clears, AC.clear, AC.highs, AC.high, Bool.not_false, Bool.true_and, Bool.and_self, AV.purge, AV.purges, AC.purge, AI.purge, List.contains_cons, List.contains_nil, Nat.reduceBEq, Bool.or_self, Bool.or_false, Bool.false_or, Bool.or_true, eT, iR, e5]
   ·simp only [go_sem, fN, seval, AS.drop, AN, AC.clears, AC.clear, AC.highs, AC.high, Bool.not_false, Bool.true_and, Bool.and_self, AV.purge, AV.purges, AC.purge, AI.purge, List.contains_cons, List.contains_nil, Nat.reduceBEq, Bool.or_self, Bool.or_false, Bool.false_or, Bool.or_true, eT, iR, e38]
   ·simp only [go_sem, fN, seval, AS.drop, AN, AC.clears, AC.clear, AC.highs, AC.high, Bool.not_false, Bool.true_and, Bool.and_self, AV.purge, AV.purges, AC.purge, AI.purge, List.contains_cons, List.contains_nil, Nat.reduceBEq, Bool.or_self, Bool.or_false, Bool.false_or, Bool.or_true, eT, iR, e39]
   ·simp only [go_sem, fN, seval, AS.drop, AN, AC.clears, AC.clear, AC.highs, AC.high, Bool.not_false, Bool.true_and, Bool.and_self, AV.purge, AV.purges, AC.purge, AI.purge, List.contains_cons, List.contains_nil, Nat.reduceBEq, Bool.or_self, Bool.or_false, Bool.false_or, Bool.or_true, eT, iR, BM, hM, s4]
   ·simp only [go_sem, fN, seval, AS.drop, AN, AC.clears, AC.clear, AC.highs, AC.high, Bool.not_false, Bool.true_and, Bool.and_self, AV.purge, AV.purges, AC.purge, AI.purge, List.contains_cons, List.contains_nil, Nat.reduceBEq, Bool.or_self, Bool.or_false, Bool.false_or, Bool.or_true, eT, iR]
   ·rw [hsn', List.map_append]
    simp only [go_sem, fN, seval, AS.drop, AN, AC.clears, AC.clear, AC.highs, AC.high, Bool.not_false, Bool.true_and, Bool.and_self, AV.purge, AV.purges, AC.purge, AI.purge, List.contains_cons, List.contains_nil, Nat.reduceBEq, Bool.or_self, Bool.or_false, Bool.false_or, Bool.or_true, eT, iR, AB]
   ·rfl
   ·rw [hsn']
    simp only [go_sem, fN, seval, AS.drop, AN, AC.clears, AC.clear, AC.highs, AC.high, Bool.not_false, Bool.true_and, Bool.and_self, AV.purge, AV.purges, AC.purge, AI.purge, List.contains_cons, List.contains_nil, Nat.reduceBEq, Bool.or_self, Bool.or_false, Bool.false_or, Bool.or_true, eT, iR, AZ, GA, hM]
   ·have hj2 := sj j hj hjM
    simp only [go_sem, fN, seval, eT, iR, AZ, hj, hjM, hj2]
  ·have hke : k = t.subs.length := by omega
   rw [hke, List.take_length] at s70 sMM hlk
   rw [hke] at s5
   repeat' with_reducible first | refine W ?_ | refine Z0 ?_ | ((first | refine Wo fun K hK => ?_ | refine Wp ?_ | refine Wq ?_ | refine Wr ?_); (try simp only [go_sem, fN, seval, eT, iR, e1, e4, e5, e38, e39, e40, s4, s5, s70, s9, hlt, AB, dT, dF, nL]); (repeat refine Ai ?_); (try (refine hK _ ?_; clear hK K)); try refine iC ?_)
   refine Ab (.agg [.st (.int .i64 t.kind), .st (.int .i64 (nmI t es)), .row 70 t.subs.length]) (BK hS hM rfl) trivial ?_ ?_ fun j hj => ?_
   ·simp only [go_sem, fN, seval, eT, iR, AD, AE, AM, e4]
   ·simp only [go_sem, fN, seval, eT, iR, s70, hlk]
    rfl
   ·by_cases hjM : j = M
    ·subst hjM
     rw [AG]
     simp only [go_sem, fN, seval, eT, iR, AZ, hM, sMM]
    ·have hj2 := sj j hj hjM
     rw [AU _ hjM]
     simp only [go_sem, fN, seval, eT, iR, AZ, hj, hj2]

theorem As.freeze {C : Ctx} {s : AS} (id : Nat) (ts : List Nat) {ty : TypeId} {xs : List SV} (hS : s.S id = some (.box ty (xs.map .st))) (hl : 0 < xs.length) (ht : ∀ t ∈ ts, s.env t = .one (.ptr id 1 0 0)) :
  As C s ⟨fun t => if t ∈ ts then .one (.eptr xs) else s.env t, AO s.S id (some (.dead 1 0))⟩ := fun a w ⟨σ, ι, R⟩ => by
 have hb := R.blk _ _ hS
 cases hb with
 | @box _ _ g vs h1 h2 h3 h4 h5 =>
  have hkeep := Ej (σ := σ) (w' := w) (g := g) (k := xs.length) (fun p x e hx => by rw [h5 _ e] at hx; cases hx)
  obtain ⟨hu, R'⟩ := R.turn (w' := w) hS (.dead 1 0) (ι id) (σ' := Cy σ w g xs.length) hkeep (fun p hp _ => D9 (fun e => hp (by rw [e]; exact h1))) (DK R.fit) (Nat.le_refl _) (fun _ => ⟨rfl, rfl⟩) ⟨rfl, rfl, rfl⟩ (Nat.le_refl _) (fun _ _ _ => rfl) (fun g h => .inl h)
   (fun hu => .dead fun g' hg' => by rw [h1] at hg'; cases hg'; exact ⟨_, h3, rfl⟩)
  refine ⟨_, _, R'.size, fun i hi => ?_, R'.nod, R'.fit, R'.blk, R'.inj, R'.base, R'.ext, R'.old, R'.os, R'.grown, R'.same, R'.upd⟩
  show AT _ _ _ _ (if i ∈ ts then .one (.eptr xs) else s.env i)
  split
  ·rename_i hm
   have re := R.env i hi
   rw [ht i hm] at re
   obtain ⟨b, q1, q2, q3⟩ := DW (AW re)
   rw [hS] at q1
   cases q1
   obtain ⟨g', e1, e2⟩ := q3 rfl
   rw [h1] at e1
   cases e1
   rw [e2]
   have cell : ∀ j x, xs[j]? = some x → ∃ v, vs[j]? = some v ∧ Ax σ v x := fun j x hx => by
    obtain ⟨v, v1, v2⟩ := h4.get (j := j) (b := .st x) (by rw [List.getElem?_map, hx]; rfl)
    exact ⟨v, by simpa using v1, Bj v2⟩
   refine .one (.eptr (fun j => (vs[j]?).getD undef) (fun j x hx => ?_) (fun j x hx => ?_) (fun _ _ => ?_))
   ·obtain ⟨v, v1, v2⟩ := cell j x hx
    have hj := (List.getElem?_eq_some_iff.1 hx).1
    rw [show (0 * (AI.box ty (xs.map AC.st)).wid + 0 + j) = j by omega, JI hj, cell_of_row w g _ _ _ _ h3, v1]
    rfl
   ·obtain ⟨v, v1, v2⟩ := cell j x hx
    rw [v1]
    exact v2.mono hkeep
   ·rw [F_ hl, EZ h3]
  ·exact R'.env i hi

theorem Jd {xs : List Lm} {p : Lm → Bool} {k : Nat} {a : Lm} (ha : xs[k]? = some a) (h : (xs.take k).any p = false) (hp : p a = true) : xs.findIdx? p = some k := by
 obtain ⟨hk, he⟩ := List.getElem?_eq_some_iff.1 ha
 rw [List.findIdx?_eq_some_iff_getElem]
 refine ⟨hk, by rw [he]; exact hp, fun j hj => ?_⟩
 rw [List.any_eq_false] at h
 have := h (xs[j]'(by omega)) (by
  rw [List.mem_take_iff_getElem]
  exact ⟨j, by omega, rfl⟩)
 simpa using this
abbrev HD (x : Lm) : AC := .fn 53 [.eptr (Ac x)]
theorem Od (y x : Lm) : Aa Tryd.prog 53 [aLm y, .one (.eptr (Ac x))] (An (x.same y)) := by
 refine FP.ac fun C hC => ?_
 unfold C3
 repeat' (first | (with_reducible first | refine W ?_ | refine Z0 ?_ | ((first | refine Wo fun K hK => ?_ | refine Wp ?_ | refine Wq ?_ | refine Wr ?_); (try simp only [go_sem, fN, seval, eT, iR, AB, dT, dF, nL]); (repeat refine Ai ?_); (try (refine hK _ ?_; clear hK K)); try refine iC ?_)) | refine Cg _ (OZ x y) ?_)
 simp only [go_sem, fN, seval, AY, AS.result, AD, AE, AM]
theorem J7 (l : List Lm) (x : Lm) : Aa Tryd.prog 69 [A1 l, .one (HD x)] (AK (match l.findIdx? (fun y => x.same y) with | some i => (i : Int) | none => -1)) := by
 refine BJ.ac fun C hC => ?_
 unfold Au
 refine IWP.learn 0 (by omega) fun hkn => ?_
 have hln := Cp hkn
 have hll : (l.map Ac).length = l.length := List.length_map _
 repeat' with_reducible first | refine W ?_ | refine Z0 ?_ | ((first | refine Wo fun K hK => ?_ | refine Wp ?_ | refine Wq ?_ | refine Wr ?_); (try simp only [go_sem, fN, seval, eT, iR, dT, dF, nL]); (repeat refine Ai ?_); (try (refine hK _ ?_; clear hK K)); try refine iC ?_)
 refine IWP.loop (fun n s => ∃ k, k ≤ l.length ∧ n = l.length - k ∧ (l.take k).any (fun y => x.same y) = false ∧ s.env 0 = A1 l ∧ s.env 1 = .one (HD x) ∧ s.env 7 = AK l.length ∧ s.env 8 = AK k) l.length ⟨0, Nat.zero_le _, rfl, rfl, rfl, rfl, rfl, rfl⟩ ?_
 rintro n ⟨env, S⟩ ⟨k, hk, rfl, hp, e0, e1, e7, e8⟩
 simp only at e0 e1 e7 e8
 by_cases hlt : (k : Int) < l.length
 ·obtain ⟨y, hy⟩ := Ak (show k < l.length by omega)
  have hfc := Od y x
  simp only [AB] at hfc
  by_cases hr : x.same y = true
  ·have hi := Jd (p := fun y => x.same y) hy hp hr
   rw [hi]
   repeat' with_reducible first | refine W ?_ | refine Z0 ?_ | ((first | refine Wo fun K hK => ?_ | refine Wp ?_ | refine Wq ?_ | refine Wr ?_); (try simp only [go_sem, fN, seval, eT, iR, e0, e1, e7, e8, hlt, hy, hll, AB, dT, dF, nL]); (repeat refine Ai ?_); (try (refine hK _ ?_; clear hK K)); try refine iC ?_)
   refine ⟨by kernel_rfl, _, _, Aa.toS hfc rfl, ?_⟩
   repeat' with_reducible first | refine W ?_ | refine Z0 ?_ | ((first | refine Wo fun K hK => ?_ | refine Wp ?_ | refine Wq ?_ | refine Wr ?_); (try simp only [go_sem, fN, seval, eT, iR, e0, e1, e7, e8, hr, dT, dF, nL]); (repeat refine Ai ?_); (try (refine hK _ ?_; clear hK K)); try refine iC ?_)
   simp only [go_sem, fN, seval, AY, AS.result, AD, AE, AM]
  ·have hr' : x.same y = false := by simpa using hr
   repeat' with_reducible first | refine W ?_ | refine Z0 ?_ | ((first | refine Wo fun K hK => ?_ | refine Wp ?_ | refine Wq ?_ | refine Wr ?_); (try simp only [go_sem, fN, seval, eT, iR, e0, e1, e7, e8, hlt, hy, hll, AB, dT, dF, nL]); (repeat refine Ai ?_); (try (refine hK _ ?_; clear hK K)); try refine iC ?_)
   refine ⟨by kernel_rfl, _, _, Aa.toS hfc rfl, ?_⟩
   repeat' with_reducible first | refine W ?_ | refine Z0 ?_ | ((first | refine Wo fun K hK => ?_ | refine Wp ?_ | refine Wq ?_ | refine Wr ?_); (try simp only [go_sem, fN, seval, eT, iR, e0, e1, e7, e8, hr', dT, dF, nL]); (repeat refine Ai ?_); (try (refine hK _ ?_; clear hK K)); try refine iC ?_)
   refine AH ⟨l.length - (k + 1), by omega, k + 1, by omega, rfl, ?_, e0, e1, e7, rfl⟩
   rw [Al hy, List.any_append, hp]
   simpa using hr'
 ·rw [List.take_of_length_le (by omega)] at hp
  have hi : l.findIdx? (fun y => x.same y) = none := by
   rw [List.findIdx?_eq_none_iff]
   intro y hy
   rw [List.any_eq_false] at hp
   simpa using hp y hy
  rw [hi]
  repeat' with_reducible first | refine W ?_ | refine Z0 ?_ | ((first | refine Wo fun K hK => ?_ | refine Wp ?_ | refine Wq ?_ | refine Wr ?_); (try simp only [go_sem, fN, seval, eT, iR, e0, e1, e7, e8, hlt, dT, dF, nL]); (repeat refine Ai ?_); (try (refine hK _ ?_; clear hK K)); try refine iC ?_)
  simp only [go_sem, fN, seval, AY, AS.result, AD, AE, AM]
theorem HJ (l : List Lm) (x : Lm) : Aa Tryd.prog 52 [A1 l, .one (HD x)] (An (l.any fun y => x.same y)) := by
 refine BC.ac fun C hC => ?_
 unfold At
 have hc := J7 l x
 simp only [HD, AB] at hc
 cases hf : l.findIdx? (fun y => x.same y) with
 | none =>
  rw [hf] at hc
  have ha : (l.any fun y => x.same y) = false := by
   rw [List.findIdx?_eq_none_iff] at hf
   rw [List.any_eq_false]
   intro y hy
   simpa using hf y hy
  rw [ha]
  repeat' (first | (with_reducible first | refine W ?_ | refine Z0 ?_ | ((first | refine Wo fun K hK => ?_ | refine Wp ?_ | refine Wq ?_ | refine Wr ?_); (try simp only [go_sem, fN, seval, eT, iR, List.all_cons, List.all_nil, AC.stay, Bool.and_self, dT, dF, nL]); (repeat refine Ai ?_); (try (refine hK _ ?_; clear hK K)); try refine iC ?_)) | refine Cg _ (hc) ?_)
  simp only [go_sem, fN, seval, AY, AS.result, AD, AE, AM]
 | some i =>
  rw [hf] at hc
  have ha : (l.any fun y => x.same y) = true := by
   rw [List.findIdx?_eq_some_iff_getElem] at hf
   obtain ⟨hk, hp, _⟩ := hf
   rw [List.any_eq_true]
   exact ⟨_, List.getElem_mem hk, hp⟩
  have h0 : (0 : Int) ≤ (i : Int) := by omega
  rw [ha]
  repeat' (first | (with_reducible first | refine W ?_ | refine Z0 ?_ | ((first | refine Wo fun K hK => ?_ | refine Wp ?_ | refine Wq ?_ | refine Wr ?_); (try simp only [go_sem, fN, seval, eT, iR, List.all_cons, List.all_nil, AC.stay, Bool.and_self, h0, dT, dF, nL]); (repeat refine Ai ?_); (try (refine hK _ ?_; clear hK K)); try refine iC ?_)) | refine Cg _ (hc) ?_)
  simp only [go_sem, fN, seval, AY, AS.result, AD, AE, AM]
theorem OV (l : List Lm) (hl : l.length ≤ 1000000) : Gm Tryd.prog 51 [A1 l] 24 3 (l.map Ac) := by
 unfold Gm
 rw [List.length_map]
 refine BQ.acS fun hS C hC => ?_
 unfold Aw
 have hb : l.length * 40 ≤ 140737488355328 := by omega
 by_cases h0 : l.length = 0
 ·have h1 : l = [] := by simpa using h0
  subst h1
  repeat' with_reducible first | refine W ?_ | refine Z0 ?_ | ((first | refine Wo fun K hK => ?_ | refine Wp ?_ | refine Wq ?_ | refine Wr ?_); (try simp only [go_sem, fN, seval, eT, iR, dT, dF, nL]); (repeat refine Ai ?_); (try (refine hK _ ?_; clear hK K)); try refine iC ?_)
  refine ⟨?_, ?_⟩
  ·repeat' with_reducible first | refine W ?_ | refine Z0 ?_ | ((first | refine Wo fun K hK => ?_ | refine Wp ?_ | refine Wq ?_ | refine Wr ?_); (try simp only [go_sem, fN, seval, eT, iR, dT, dF, nL]); (repeat refine Ai ?_); (try (refine hK _ ?_; clear hK K)); try refine iC ?_)
   refine LM (As.own 2 7 24 3 (xs := ([] : List (List SV))) rfl rfl (by simp) (by omega)) ?_
   exact Pg (mu := false) trivial 7 (by decide) rfl (fun i hi => by show AO _ _ _ _ = _; rw [AU _ (by omega)]; rfl) rfl
  ·repeat' with_reducible first | refine W ?_ | refine Z0 ?_ | ((first | refine Wo fun K hK => ?_ | refine Wp ?_ | refine Wq ?_ | refine Wr ?_); (try simp only [go_sem, fN, seval, eT, iR, dT, dF, nL]); (repeat refine Ai ?_); (try (refine hK _ ?_; clear hK K)); try refine iC ?_)
   exact Pg (mu := false) trivial 7 (by decide) rfl (fun i hi => by show AO _ _ _ _ = _; rw [AU _ (by omega)]; rfl) rfl
 ·repeat' with_reducible first | refine W ?_ | refine Z0 ?_ | ((first | refine Wo fun K hK => ?_ | refine Wp ?_ | refine Wq ?_ | refine Wr ?_); (try simp only [go_sem, fN, seval, eT, iR, h0, hb, dT, dF, nL]); (repeat refine Ai ?_); (try (refine hK _ ?_; clear hK K)); try refine iC ?_)
  exact Pg (mu := false) trivial 7 (by decide) rfl (fun i hi => by show AO _ _ _ _ = _; rw [AU _ (by omega)]; rfl) rfl

theorem Pc : ∀ (f : Nat) (t : Lm) (w : List Lm) (m : List (Int × Int)) (M : Nat) (S : AA), t.wf → t.size ≤ f → t.size + w.length ≤ 1000 → 1000 ≤ M → S M = some (Bb m) →
  Ag Tryd.prog 33 [aLm t, A1 w, .one (.mptr M)] S (An (Dr f t w m).1) (AO S M (some (Bb (Dr f t w m).2))) := by
 intro f
 induction f with
 | zero => intro t w m M S hw hf; have := Lm.size_pos t; omega
 | succ f ih =>
 intro t w m M S hw hf hz hM sM
 have hself : AO S M (some (Bb m)) = S := Gv sM
 have hwl : (w.map Ac).length = w.length := List.length_map _
 obtain ⟨hwf1, hwf2⟩ := (Lm.wf_eq t).1 hw
 refine GZ.acS fun hS C hC => ?_
 unfold Du
 have n3 := AR hS (i := 3) (by omega)
 have n8 := AR hS (i := 8) (by omega)
 have n40 := AR hS (i := 40) (by omega)
 have hMl : ∀ i, i < 1000 → (M = i) = False := fun i hi => AZ hM hi
 unfold Dr
 by_cases hk2 : t.kind = 2
 ·have hn : BX t.kind = 1 := by unfold BX; rw [if_pos hk2]
  rw [hn] at hwf1
  match hs : t.subs, hwf1.2.2 with
  | [b], _ =>
   have hbz := Lm.size_sub (t := t) (a := b) (by rw [hs]; simp)
   have hbw := Lm.wf_sub hw (a := b) (by rw [hs]; simp)
   rw [if_pos hk2]
   simp only [List.headD_cons]
   by_cases h0 : w.length = 0
   ·rw [if_pos h0]
    have h0' : ((w.length : Nat) : Int) = 0 := by omega
    have hc := ih b [] m M S hbw (by omega) (by simp only [List.length_nil]; omega) hM sM
    generalize Dr f b [] m = r at *
    obtain ⟨r1, m1⟩ := r
    repeat' with_reducible first | refine W ?_ | refine Z0 ?_ | ((first | refine Wo fun K hK => ?_ | refine Wp ?_ | refine Wq ?_ | refine Wr ?_); (try simp only [go_sem, fN, seval, eT, iR, AS.startS, n3, hk2, hs, h0', AB, dT, dF, nL]); (repeat refine Ai ?_); (try (refine hK _ ?_; clear hK K)); try refine iC ?_)
    refine CI (vs := [aLm b, A1 [], .one (.mptr M)]) (by simp [Cn, outV, outC, stC, outCs, AB]) (by simp [AV.highs, AV.high, AC.highs, AC.high, hM]) hS (fun j hj => by (simp only [go_sem, fN, seval, eT, iR, AZ, hj])) hc ?_
    repeat' with_reducible first | refine W ?_ | refine Z0 ?_ | ((first | refine Wo fun K hK => ?_ | refine Wp ?_ | refine Wq ?_ | refine Wr ?_); (try simp only [go_sem, fN, seval, eT, iR, dT, dF, nL]); (repeat refine Ai ?_); (try (refine hK _ ?_; clear hK K)); try refine iC ?_)
    refine Ab (An r1) (BK hS hM rfl) trivial ?_ rfl fun j hj => ?_
    ·simp only [go_sem, fN, seval, eT, iR, AD, AE, AM]
    ·show BI _ _ j = _
     rw [Aq hj]
   ·rw [if_neg h0]
    have h0' : ¬ ((w.length : Nat) : Int) = 0 := by omega
    rw [hself]
    repeat' with_reducible first | refine W ?_ | refine Z0 ?_ | ((first | refine Wo fun K hK => ?_ | refine Wp ?_ | refine Wq ?_ | refine Wr ?_); (try simp only [go_sem, fN, seval, eT, iR, AS.startS, n3, hk2, hs, h0', AB, dT, dF, nL]); (repeat refine Ai ?_); (try (refine hK _ ?_; clear hK K)); try refine iC ?_)
    refine Ab (An false) hS trivial ?_ rfl fun j hj => ?_
    ·simp only [go_sem, fN, seval, eT, iR, AD, AE, AM]
    ·simp only [go_sem, fN, seval, eT, iR, AZ, hj]
  | [], h => simp at h
  | _ :: _ :: _, h => simp at h; omega
 ·rw [if_neg hk2]
  by_cases hk3 : t.kind = 3
  ·have hn : BX t.kind = 2 := by unfold BX; rw [if_neg hk2, if_pos hk3]
   rw [hn] at hwf1
   match hs : t.subs, hwf1.2.2 with
   | [a, b], _ =>
    have haz := Lm.size_sub (t := t) (a := a) (by rw [hs]; simp)
    have hbz := Lm.size_sub (t := t) (a := b) (by rw [hs]; simp)
    have hpa := Lm.size_pos a
    have hpb := Lm.size_pos b
    have hse := Lm.size_eq t
    rw [hs] at hse
    simp only [Lm.sizes] at hse
    have haw := Lm.wf_sub hw (a := a) (by rw [hs]; simp)
    have hbw := Lm.wf_sub hw (a := b) (by rw [hs]; simp)
    rw [if_pos hk3]
    simp only [List.headD_cons, List.getD_cons_succ, List.getD_cons_zero]
    have hc := ih b [] m M S hbw (by omega) (by simp only [List.length_nil]; omega) hM sM
    generalize Dr f b [] m = r at *
    obtain ⟨r1, m1⟩ := r
    simp only at hc ⊢
    generalize hR : (if r1 = true then Dr f a (w ++ [b]) m1 else (false, m1)) = R at *
    obtain ⟨b', m'⟩ := R
    simp only
    repeat' with_reducible first | refine W ?_ | refine Z0 ?_ | ((first | refine Wo fun K hK => ?_ | refine Wp ?_ | refine Wq ?_ | refine Wr ?_); (try simp only [go_sem, fN, seval, eT, iR, AS.startS, n3, hk2, hk3, hs, AB, dT, dF, nL]); (repeat refine Ai ?_); (try (refine hK _ ?_; clear hK K)); try refine iC ?_)
    refine CI (vs := [aLm b, A1 [], .one (.mptr M)]) (by simp [Cn, outV, outC, stC, outCs, AB]) (by simp [AV.highs, AV.high, AC.highs, AC.high, hM]) hS (fun j hj => by (simp only [go_sem, fN, seval, eT, iR, AZ, hj])) hc ?_
    generalize hS2 : BI _ (AO S M (some (Bb m1))) = S2
    have u3 : S2 3 = some (Bc t) := by rw [← hS2, Az (by decide)]; (simp only [go_sem, fN, seval, eT, iR, Bc, hk3, hs, AB])
    have u40 : S2 40 = none := by rw [← hS2, Az (by decide)]; (simp only [go_sem, fN, seval, eT, iR, n40])
    have uM : S2 M = some (Bb m1) := by rw [← hS2, Aq hM, AG]
    have uj : ∀ j, 1000 ≤ j → S2 j = AO S M (some (Bb m1)) j := fun j hj => by rw [← hS2, Aq hj]
    clear hS2
    cases r1 with
    | false =>
     simp only [Bool.false_eq_true, if_false, Prod.mk.injEq] at hR
     obtain ⟨rfl, rfl⟩ := hR
     repeat' with_reducible first | refine W ?_ | refine Z0 ?_ | ((first | refine Wo fun K hK => ?_ | refine Wp ?_ | refine Wq ?_ | refine Wr ?_); (try simp only [go_sem, fN, seval, eT, iR, u3, hk3, hs, AB, dT, dF, nL]); (repeat refine Ai ?_); (try (refine hK _ ?_; clear hK K)); try refine iC ?_)
     refine Ab (An false) (BK hS hM rfl) trivial ?_ rfl fun j hj => ?_
     ·simp only [go_sem, fN, seval, eT, iR, AD, AE, AM]
     ·have hj2 := uj j hj
      simp only [go_sem, fN, seval, eT, iR, AZ, hj, hj2]
    | true =>
     simp only [if_true] at hR
     have hc2 := ih a (w ++ [b]) m1 M (AO S M (some (Bb m1))) haw (by omega) (by rw [List.length_append, List.length_singleton]; omega) hM (AG _ _ _)
     rw [hR] at hc2
     have hun : AO (AO S M (some (Bb m1))) M (some (Bb m')) = AO S M (some (Bb m')) := by
      funext j
      unfold AO
      split <;> rfl
     simp only at hc2
     rw [hun] at hc2
     repeat' with_reducible first | refine W ?_ | refine Z0 ?_ | ((first | refine Wo fun K hK => ?_ | refine Wp ?_ | refine Wq ?_ | refine Wr ?_); (try simp only [go_sem, fN, seval, eT, iR, u3, u40, hk3, hs, AB, dT, dF, nL]); (repeat refine Ai ?_); (try (refine hK _ ?_; clear hK K)); try refine iC ?_)
     refine ⟨false, _, _, _, OV w (by omega), by (simp only [go_sem, fN, seval, eT, iR, u40]), fun k hk => by
      simp only [List.mem_cons, List.not_mem_nil, or_false] at hk
      rcases hk with rfl | rfl <;> rfl, ?_⟩
     repeat' with_reducible first | refine W ?_ | refine Z0 ?_ | ((first | refine Wo fun K hK => ?_ | refine Wp ?_ | refine Wq ?_ | refine Wr ?_); (try simp only [go_sem, fN, seval, eT, iR, u3, u40, hk3, hs, hwl, F9, AB, dT, dF, nL]); (repeat refine Ai ?_); (try (refine hK _ ?_; clear hK K)); try refine iC ?_)
     refine CI (vs := [aLm a, A1 (w ++ [b]), .one (.mptr M)]) (by simp [Cn, outV, outC, stC, outCs, AB, AO]) (by simp [AV.highs, AV.high, AC.highs, AC.high, hM]) (BK hS hM rfl) (fun j hj => by (have hj2 := uj j hj; (simp only [go_sem, fN, seval, eT, iR, AZ, hj, hj2]))) hc2 ?_
     repeat' with_reducible first | refine W ?_ | refine Z0 ?_ | ((first | refine Wo fun K hK => ?_ | refine Wp ?_ | refine Wq ?_ | refine Wr ?_); (try simp only [go_sem, fN, seval, eT, iR, dT, dF, nL]); (repeat refine Ai ?_); (try (refine hK _ ?_; clear hK K)); try refine iC ?_)
     refine Ab (An b') (BK hS hM rfl) trivial ?_ rfl fun j hj => ?_
     ·simp only [go_sem, fN, seval, eT, iR, AD, AE, AM]
     ·show BI _ _ j = _
      rw [Aq hj]
   | [], h => simp at h
   | [_], h => simp at h
   | _ :: _ :: _ :: _, h => simp at h; omega
  ·rw [if_neg hk3]
   by_cases hk5 : t.kind = 5
   ·rw [if_pos hk5]
    have hk5T := eq_true hk5
    generalize hR : (if CH [] w = true then ((match D3 m t.idx with | none => true | some n => decide (n = (w.length : Int))), EB m t.idx w.length) else (false, m)) = R at *
    obtain ⟨b', m'⟩ := R
    simp only
    repeat' with_reducible first | refine W ?_ | refine Z0 ?_ | ((first | refine Wo fun K hK => ?_ | refine Wp ?_ | refine Wq ?_ | refine Wr ?_); (try simp only [go_sem, fN, seval, eT, iR, AS.startS, n3, hk2, hk3, hk5T, dT, dF, nL]); (repeat refine Ai ?_); (try (refine hK _ ?_; clear hK K)); try refine iC ?_)
    refine IWP.loopD [8] (fun q s => ∃ k, k ≤ w.length ∧ q = w.length - k ∧ CH [] (w.take k) = true ∧ s.env 1 = A1 w ∧ s.env 2 = .one (.mptr M) ∧ s.env 3 = .one (.ptr 3 1 0 0) ∧ s.env 52 = A1 w ∧ s.env 53 = AK w.length ∧ s.env 54 = AK k ∧ s.S 3 = some (Bc t) ∧ s.S 8 = none ∧ ∀ j, 1000 ≤ j → s.S j = S j) w.length
     ⟨0, Nat.zero_le _, rfl, rfl, rfl, rfl, rfl, rfl, rfl, rfl, by simp only [go_sem, fN, seval, eT, iR], by simp only [go_sem, fN, seval, eT, iR, n8], fun j hj => by simp only [go_sem, fN, seval, eT, iR, AZ, hj]⟩ ?_
    rintro q ⟨env, S1⟩ ⟨k, hk, rfl, hh, e1, e2, e3, e52, e53, e54, s3, s8, sj⟩
    simp only at e1 e2 e3 e52 e53 e54 s3 s8 sj
    by_cases hlt : (k : Int) < w.length
    ·obtain ⟨x, hx⟩ := Ak (show k < w.length by omega)
     obtain ⟨hx1, hx2⟩ := GV hh hx
     rw [List.nil_append] at hx1 hx2
     have hfc := HJ (w.take k) x
     simp only [HD, AB] at hfc
     rw [show A1 (w.take k) = .one (.st (.list ((w.map Ac).take k))) by rw [← List.map_take]] at hfc
     iterate 11 with_reducible first | refine W ?_ | refine Z0 ?_ | ((first | refine Wo fun K hK => ?_ | refine Wp ?_ | refine Wq ?_ | refine Wr ?_); (try simp only [go_sem, fN, seval, eT, iR, e1, e2, e3, e52, e53, e54, s3, s8, hlt, hx, AB, dT, dF, nL]); (repeat refine Ai ?_); (try (refine hK _ ?_; clear hK K)); try refine iC ?_)
     refine IWP.ghost (As.freeze 8 [8] (ty := 24) (xs := [.int .i64 x.kind, .int .i64 x.idx, .list (x.subs.map Ac)]) (by (simp only [go_sem, fN, seval, eT, iR, AB])) (by simp) (fun t ht => by rw [List.mem_singleton] at ht; subst ht; rfl)) ?_
     by_cases hx1k : x.kind = 1
     ·have hxT := eq_true hx1k
      cases hd : (w.take k).any (fun y => x.same y) with
      | false =>
       rw [hd] at hfc
       have hh2 := hx1 ⟨hx1k, hd⟩
       repeat' (first | (with_reducible first | refine W ?_ | refine Z0 ?_ | ((first | refine Wo fun K hK => ?_ | refine Wp ?_ | refine Wq ?_ | refine Wr ?_); (try simp only [go_sem, fN, seval, eT, iR, e1, e2, e3, e52, e53, e54, s3, hlt, hx, hxT, hwl, hk, List.mem_singleton, AS.caps, List.all_cons, List.all_nil, AC.stay, Bool.and_self, AB, dT, dF, nL]); (repeat refine Ai ?_); (try (refine hK _ ?_; clear hK K)); try refine iC ?_)) | refine Cg _ (hfc) ?_)
       refine AH ⟨w.length - (k + 1), by omega, k + 1, by omega, rfl, hh2, ?_, ?_, ?_, ?_, ?_, ?_, ?_, ?_, fun j hj => CT hS (by decide) hj ?_⟩
       ·simp only [go_sem, fN, seval, AS.drop, AN, AC.clears, AC.clear, AC.highs, AC.high, Bool.not_false, Bool.true_and, Bool.and_self, AV.purge, AV.purges, AC.purge, AI.purge, List.contains_cons, List.contains_nil, Nat.reduceBEq, Bool.or_self, Bool.or_false, Bool.false_or, Bool.or_true, eT, iR, e1]
       ·simp only [go_sem, fN, seval, AS.drop, AN, AC.clears, AC.clear, AC.highs, AC.high, Bool.not_false, Bool.true_and, Bool.and_self, AV.purge, AV.purges, AC.purge, AI.purge, List.contains_cons, List.contains_nil, Nat.reduceBEq, Bool.or_self, Bool.or_false, Bool.false_or, Bool.or_true, eT, iR, e2, GA, hM]
       ·simp only [go_sem, fN, seval, AS.drop, AN, AC.clears, AC.clear, AC.highs, AC.high, Bool.not_false, Bool.true_and, Bool.and_self, AV.purge, AV.purges, AC.purge, AI.purge, List.contains_cons, List.contains_nil, Nat.reduceBEq, Bool.or_self, Bool.or_false, Bool.false_or, Bool.or_true, eT, iR, e3]
       ·simp only [go_sem, fN, seval, AS.drop, AN, AC.clears, AC.clear, AC.highs, AC.high, Bool.not_false, Bool.true_and, Bool.and_self, AV.purge, AV.purges, AC.purge, AI.purge, List.contains_cons, List.contains_nil, Nat.reduceBEq, Bool.or_self, Bool.or_false, Bool.false_or, Bool.or_true, eT, iR, e52]
       ·simp only [go_sem, fN, seval, AS.drop, AN, AC.clears, AC.clear, AC.highs, AC.high, Bool.not_false, Bool.true_and, Bool.and_self, AV.purge, AV.purges, AC.purge, AI.purge, List.contains_cons, List.contains_nil, Nat.reduceBEq, Bool.or_self, Bool.or_false, Bool.false_or, Bool.or_true, eT, iR, e53]
       ·rfl
       ·simp only [go_sem, fN, seval, AS.drop, AN, AC.clears, AC.clear, AC.highs, AC.high, Bool.not_false, Bool.true_and, Bool.and_self, AV.purge, AV.purges, AC.purge, AI.purge, List.contains_cons, List.contains_nil, Nat.reduceBEq, Bool.or_self, Bool.or_false, Bool.false_or, Bool.or_true, eT, iR, s3]
       ·rfl
       ·have hj2 := sj j hj
        simp only [go_sem, fN, seval, eT, iR, AZ, hj, hj2]
      | true =>
       rw [hd] at hfc
       have hno : CH [] w = false := hx2 (by rw [hd]; simp)
       rw [hno] at hR
       simp only [Bool.false_eq_true, if_false, Prod.mk.injEq] at hR
       obtain ⟨rfl, rfl⟩ := hR
       rw [hself]
       repeat' (first | (with_reducible first | refine W ?_ | refine Z0 ?_ | ((first | refine Wo fun K hK => ?_ | refine Wp ?_ | refine Wq ?_ | refine Wr ?_); (try simp only [go_sem, fN, seval, eT, iR, e1, e2, e3, e52, e53, e54, s3, hlt, hx, hxT, hwl, hk, List.mem_singleton, AS.caps, List.all_cons, List.all_nil, AC.stay, Bool.and_self, AB, dT, dF, nL]); (repeat refine Ai ?_); (try (refine hK _ ?_; clear hK K)); try refine iC ?_)) | refine Cg _ (hfc) ?_)
       refine Ab (An false) hS trivial ?_ rfl fun j hj => ?_
       ·simp only [go_sem, fN, seval, eT, iR, AD, AE, AM]
       ·have hj2 := sj j hj
        simp only [go_sem, fN, seval, eT, iR, AZ, hj, hj2]
     ·have hno : CH [] w = false := hx2 (fun e => hx1k e.1)
      rw [hno] at hR
      simp only [Bool.false_eq_true, if_false, Prod.mk.injEq] at hR
      obtain ⟨rfl, rfl⟩ := hR
      rw [hself]
      repeat' (first | (with_reducible first | refine W ?_ | refine Z0 ?_ | ((first | refine Wo fun K hK => ?_ | refine Wp ?_ | refine Wq ?_ | refine Wr ?_); (try simp only [go_sem, fN, seval, eT, iR, e1, e2, e3, e52, e53, e54, s3, hlt, hx, hx1k, hwl, hk, List.mem_singleton, AS.caps, AB, dT, dF, nL]); (repeat refine Ai ?_); (try (refine hK _ ?_; clear hK K)); try refine iC ?_)) | refine Cg _ (hfc) ?_)
      refine Ab (An false) hS trivial ?_ rfl fun j hj => ?_
      ·simp only [go_sem, fN, seval, eT, iR, AD, AE, AM]
      ·have hj2 := sj j hj
       simp only [go_sem, fN, seval, eT, iR, AZ, hj, hj2]
    ·rw [List.take_of_length_le (by omega)] at hh
     rw [hh] at hR
     simp only [if_true, Prod.mk.injEq] at hR
     obtain ⟨hb1, rfl⟩ := hR
     have sMM := (sj M hM).trans sM
     have hg := DD m t.idx
     have hp := Ee m t.idx w.length
     cases hgk : D3 m t.idx with
     | none =>
      rw [hgk] at hg hb1
      subst hb1
      repeat' with_reducible first | refine W ?_ | refine Z0 ?_ | ((first | refine Wo fun K hK => ?_ | refine Wp ?_ | refine Wq ?_ | refine Wr ?_); (try simp only [go_sem, fN, seval, eT, iR, e1, e2, e3, e52, e53, e54, s3, hlt, sMM, AZ, BM, hM, hg, hp, FZ, By, Dz, KV.of, KV.of1, dT, dF, nL]); (repeat refine Ai ?_); (try (refine hK _ ?_; clear hK K)); try refine iC ?_)
      refine Ab (An true) (BK hS hM rfl) trivial ?_ rfl fun j hj => ?_
      ·simp only [go_sem, fN, seval, eT, iR, AD, AE, AM]
      ·have hj2 := sj j hj
       simp only [go_sem, fN, seval, eT, iR, AZ, hj, hj2]
     | some n =>
      rw [hgk] at hg hb1
      simp only at hb1
      subst hb1
      repeat' with_reducible first | refine W ?_ | refine Z0 ?_ | ((first | refine Wo fun K hK => ?_ | refine Wp ?_ | refine Wq ?_ | refine Wr ?_); (try simp only [go_sem, fN, seval, eT, iR, e1, e2, e3, e52, e53, e54, s3, hlt, sMM, AZ, BM, hM, hg, hp, FZ, By, Dz, KV.of, KV.of1, dT, dF, nL]); (repeat refine Ai ?_); (try (refine hK _ ?_; clear hK K)); try refine iC ?_)
      refine Ab (An (decide (n = (w.length : Int)))) (BK hS hM rfl) trivial ?_ rfl fun j hj => ?_
      ·simp only [go_sem, fN, seval, eT, iR, AD, AE, AM]
      ·have hj2 := sj j hj
       simp only [go_sem, fN, seval, eT, iR, AZ, hj, hj2]
   ·rw [if_neg hk5, hself]
    repeat' with_reducible first | refine W ?_ | refine Z0 ?_ | ((first | refine Wo fun K hK => ?_ | refine Wp ?_ | refine Wq ?_ | refine Wr ?_); (try simp only [go_sem, fN, seval, eT, iR, AS.startS, n3, hk2, hk3, hk5, dT, dF, nL]); (repeat refine Ai ?_); (try (refine hK _ ?_; clear hK K)); try refine iC ?_)
    refine Ab (An true) hS trivial ?_ rfl fun j hj => ?_
    ·simp only [go_sem, fN, seval, eT, iR, AD, AE, AM]
    ·simp only [go_sem, fN, seval, eT, iR, AZ, hj]

end Go.Proofs.YtcgnojefbalbbaaDoor
