/-
  Part 7 of the texts. Conditions: none.
-/
import Derived.Test.YtcgnojefbalbbaaDoorClP6
namespace Go.Proofs.YtcgnojefbalbbaaDoor
open Go Go.RowKit
set_option linter.unusedVariables false
set_option linter.unusedSimpArgs false
set_option maxHeartbeats 16000000
theorem GM (es : List (Int × Int)) (n d : Int) : ∀ {x : List Lm} {k : Nat} {a : Lm} (i : Int), x[k]? = some a → Br es n d i (x.take (k + 1)) = Br es n d i (x.take k) ++ (if (BE es n d a.idx).2 = true then [i + k] else [])
 | [], _, _, _, h => by simp at h
 | x :: xs, 0, a, i, h1 => by
  simp only [List.getElem?_cons_zero, Option.some.injEq] at h1
  subst h1
  simp [Br]
 | x :: xs, k + 1, a, i, h1 => by
  rw [List.getElem?_cons_succ] at h1
  have ih := GM es n d (i + 1) h1
  have e : i + 1 + (k : Int) = i + ((k + 1 : Nat) : Int) := by omega
  rw [e] at ih
  rw [List.take_succ_cons, List.take_succ_cons, Br, Br, ih]
  split <;> simp
theorem HA (es : List (Int × Int)) (n d : Int) : ∀ {x : List Lm} {i j : Int}, j ∈ Br es n d i x → i ≤ j ∧ j < i + x.length
 | [], _, _, h => by simp [Br] at h
 | x :: xs, i, j, h => by
  unfold Br at h
  have ih := @HA es n d xs (i + 1) j
  simp only [List.length_cons]
  split at h
  ·rcases List.mem_cons.1 h with rfl | h
   ·omega
   ·have := ih h; omega
  ·have := ih h; omega
theorem FK (es : List (Int × Int)) (n d : Int) : ∀ (x : List Lm) (i : Int), (Br es n d i x).length ≤ x.length
 | [], _ => by simp [Br]
 | x :: xs, i => by
  unfold Br
  have ih := FK es n d xs (i + 1)
  split <;> simp only [List.length_cons] <;> omega
abbrev NW : AC := .fn 74 [.ptr 11 1 0 0, .ptr 8 1 0 0, .ptr 9 1 0 0]
abbrev GZ : AF := .box 24 [.st (.int .i64 0), .st (.int .i64 0), .full []]
structure Ch (U : AA) (M : Nat) (m n d : Int) (t h : Lm) (w : List Lm) (s : AS) : Prop where
 e0 : s.env 0 = .one (.ptr 2023 1 0 0)
 e1 : s.env 1 = AQ m
 e8 : s.env 8 = .one (.ptr 8 1 0 0)
 e9 : s.env 9 = .one (.ptr 9 1 0 0)
 e10 : s.env 10 = .one (.ptr 10 1 0 0)
 e11 : s.env 11 = .one (.ptr 11 1 0 0)
 e12 : s.env 12 = .one (.ptr 12 1 0 0)
 e16 : s.env 16 = .one NW
 e17 : s.env 17 = .one (.ptr 17 1 0 0)
 e18 : s.env 18 = BI w
 s8 : s.S 8 = some (.box 48 [.mptr M])
 s9 : s.S 9 = some (.box 3 [.st (.int .i64 n)])
 s10 : s.S 10 = some (Bp t)
 s11 : s.S 11 = some (.box 3 [.st (.int .i64 d)])
 s12 : s.S 12 = some GZ
 s17 : s.S 17 = some (Bp h)
 sj : ∀ j, 1000 ≤ j → s.S j = U j
theorem Ch.drop {U : AA} {M : Nat} {m n d : Int} {t h : Lm} {w : List Lm} {s : AS} {ds : List Nat} (hU : A7 U) (hM : 1000 ≤ M) (hd : ∀ d ∈ ds, d < 1000) (hn : ∀ i ∈ [8, 9, 10, 11, 12, 17], ds.contains i = false) (H : Ch U M m n d t h w s) : Ch U M m n d t h w (s.drop ds) := by
 obtain ⟨e0, e1, e8, e9, e10, e11, e12, e16, e17, e18, s8, s9, s10, s11, s12, s17, sj⟩ := H
 have h8 := hn 8 (by simp)
 have h9 := hn 9 (by simp)
 have h10 := hn 10 (by simp)
 have h11 := hn 11 (by simp)
 have h12 := hn 12 (by simp)
 have h17 := hn 17 (by simp)
 have hG := B7 hd (id := 2023) (by omega)
 have hMM := B7 hd hM
 refine ⟨?_, ?_, ?_, ?_, ?_, ?_, ?_, ?_, ?_, ?_, ?_, ?_, ?_, ?_, ?_, ?_, fun j hj => CL hU hd hj (sj j hj)⟩
 all_goals (simp only [AS.drop, AJ, e0, e1, e8, e9, e10, e11, e12, e16, e17, e18, s8, s9, s10, s11, s12, s17, AV.purge, AC.purge, AC.clears, AC.clear, AF.purge, h8, h9, h10, h11, h12, h17, hG, hMM, Option.map_some, List.map_cons, List.map_nil]; try rfl)
theorem Er (T : AA) (M : Nat) (i d n : Int) (es : List (Int × Int)) (hM : 1000 ≤ M) (hi : 0 ≤ i ∧ i ≤ 1000000000) (hd : 0 ≤ d ∧ d ≤ 100) (hn : 0 ≤ n ∧ n ≤ 100) (hes : es.all (fun p => decide (0 ≤ p.2 ∧ p.2 ≤ 100)) = true)
  (s11 : T 11 = some (.box 3 [.st (.int .i64 d)])) (s8 : T 8 = some (.box 48 [.mptr M])) (s9 : T 9 = some (.box 3 [.st (.int .i64 n)])) (sM : T M = some (BW es)) :
  Aj Tryd.prog 74 [AQ i, .one (.ptr (up1 11) 1 0 0), .one (.ptr (up1 8) 1 0 0), .one (.ptr (up1 9) 1 0 0)] (upS T) (.tup [aLm (BE es n d i).1, An (BE es n d i).2]) (upS T) :=
 NQ (upS T) (up1 11) (up1 8) (up1 9) (up1 M) 3 48 3 i d n es (BR _) (BR _) (BR _) (BR _) hi hd hn hes (by rw [BS, s11]; rfl) (by rw [BS, s8]; rfl) (by rw [BS, s9]; rfl) (by rw [BS, sM]; exact Mp es)
def N0 (f : Nat) : Prop := ∀ (S : AA) (Kn K' : List Lm) (M : Nat) (m n d : Int) (es : List (Int × Int)) (t x : Lm) (b : Bool), GA f m es n Kn t d = some (K', x, b) → 1000 ≤ M → M ≠ 2023 → M ≠ 2021 → S 2023 = some (Ag 2021 Kn.length) → S 2021 = some (Ad Kn) → S M = some (BW es) →
 Aj Tryd.prog 63 [.one (.ptr 2023 1 0 0), AQ m, .one (.mptr M), AQ n, aLm t, AQ d] S (.tup [aLm x, An b]) (BG S K')
theorem Nk (f : Nat) : N0 f := by
 induction f using Nat.strongRecOn with
 | _ f ih =>
 intro S Kn K' M m n d es t0 x b ht hM hM1 hM2 sG sK sM
 cases f with
 | zero => simp [GA] at ht
 | succ f =>
 unfold GA at ht
 split at ht
 ·cases ht
 rename_i t hu
 split at ht
 ·cases ht
 rename_i hcond
 simp only [not_or, Decidable.not_not] at hcond
 obtain ⟨hk2, hok, hd0, hd1, hn0, hn1, hK1, hw1, hes⟩ := hcond
 have hok : okL t = true := by simpa using hok
 obtain ⟨hgd, hsz⟩ := CS hok
 have hwf := GK hok
 have hsp := Em t hwf hsz
 have hPg := D4 (P := Lm.good 1000000000) (fun t a h ha => Lm.good_sub h ha) hgd
 generalize Av t = p at *
 obtain ⟨h, w⟩ := p
 simp only at ht hPg hsp hw1
 have hKl : (Kn.map Af).length = Kn.length := List.length_map _
 have hwl : (w.map Af).length = w.length := List.length_map _
 have hself : BG S Kn = S := EP sG sK
 refine B4.acS fun hS C hC => ?_
 unfold BT
 have nn : ∀ i, i < 1000 → S i = none := fun i hi => AZ hS hi
 have n8 := nn 8 (by omega)
 have n9 := nn 9 (by omega)
 have n10 := nn 10 (by omega)
 have n11 := nn 11 (by omega)
 have n12 := nn 12 (by omega)
 have n17 := nn 17 (by omega)
 have n21 := nn 21 (by omega)
 have n22 := nn 22 (by omega)
 have n24 := nn 24 (by omega)
 have n28 := nn 28 (by omega)
 have n30 := nn 30 (by omega)
 have n33 := nn 33 (by omega)
 have n34 := nn 34 (by omega)
 have n190 := nn 190 (by omega)
 have n250 := nn 250 (by omega)
 have hT0 : ∀ (e : Nat → AV) (S1 : AA) (h0 : Lm), e 0 = .one (.ptr 2023 1 0 0) → True := fun _ _ _ _ => trivial
 have gi : ∀ a ∈ w, 0 ≤ a.idx ∧ a.idx ≤ 1000000000 := fun a ha => by have := (Lm.good_eq _ a).1 (hPg.2 a ha); omega
 have ghi : 0 ≤ h.idx ∧ h.idx ≤ 1000000000 := by have := (Lm.good_eq _ h).1 hPg.1; omega
 repeat' with_reducible first | refine W ?_ | refine Z0 ?_ | ((first | refine Wo fun K hK => ?_ | refine Wp ?_ | refine Wq ?_ | refine Wr ?_); (try simp only [go_sem, fN, seval, eT, iR, AS.startS, n8, n9, n10, n11, n12, dT, dF, nL]); (repeat refine Ai ?_); (try (refine hK _ ?_; clear hK K)); try refine iC ?_)
 refine ⟨_, [(2023, Ag 2021 Kn.length), (2021, Ad Kn)], Ce (by simp only [go_sem, fN, seval, eT, iR, sG]) (by simp only [go_sem, fN, seval, eT, iR, sK]), fun T hT => HV T 2023 2021 Kn (hT (2023, Ag 2021 Kn.length) (by simp)) (hT (2021, Ad Kn) (by simp)) hu, ?_⟩
 by_cases hk5 : h.kind = 5
 ·rw [if_pos hk5] at ht
  by_cases him : h.idx = m
  ·rw [if_pos him] at ht
   cases ht
   repeat' (first | (with_reducible first | refine W ?_ | refine Z0 ?_ | ((first | refine Wo fun K hK => ?_ | refine Wp ?_ | refine Wq ?_ | refine Wr ?_); (try simp only [go_sem, fN, seval, eT, iR, AS.caps, n17, sG, sK, hk2, hk5, him, AD, dT, dF, nL]); (repeat refine Ai ?_); (try (refine hK _ ?_; clear hK K)); try refine iC ?_)) | refine Cg _ (hsp) ?_)
   rw [hself]
   refine AT (.tup [aLm x, An false]) hS trivial ?_ rfl fun j hj => ?_
   ·simp only [go_sem, fN, seval, eT, iR, AG, AH, AY]
   ·simp only [go_sem, fN, seval, eT, iR, AU, hj]
  rw [if_neg him] at ht
  split at ht
  ·cases ht
  rename_i hrng
  simp only [Decidable.not_not] at hrng
  repeat' (first | (with_reducible first | refine W ?_ | refine Z0 ?_ | ((first | refine Wo fun K hK => ?_ | refine Wp ?_ | refine Wq ?_ | refine Wr ?_); (try simp only [go_sem, fN, seval, eT, iR, AS.caps, n17, sG, sK, hk2, hk5, him, AD, dT, dF, nL]); (repeat refine Ai ?_); (try (refine hK _ ?_; clear hK K)); try refine iC ?_)) | refine Cg _ (hsp) ?_)
  refine IWP.ghost (Ar.own 19 190 3 1 (xs := ([] : List (List SV))) rfl (by simp only [go_sem, fN, seval, eT, iR, n190]) (by simp) (by omega)) ?_
  refine IWP.atT (fun e s => Ch S M m n d t h w ⟨e, s⟩ ∧ e 19 = .one (.row 190 0) ∧ e 73 = BI w ∧ e 74 = AQ w.length ∧ e 75 = AQ 0 ∧ s 190 = some (.arow 3 1 []) ∧ ∀ i ∈ [21, 22, 24, 28, 250], s i = none) ⟨⟨rfl, rfl, rfl, rfl, rfl, rfl, rfl, rfl, rfl, rfl, ?_, ?_, ?_, ?_, ?_, ?_, fun j hj => ?_⟩, rfl, rfl, rfl, rfl, ?_, ?_⟩ ?_
  ·simp only [go_sem, fN, seval, eT, iR]
  ·simp only [go_sem, fN, seval, eT, iR]
  ·simp only [go_sem, fN, seval, eT, iR]
  ·simp only [go_sem, fN, seval, eT, iR]
  ·simp only [go_sem, fN, seval, eT, iR]
  ·simp only [go_sem, fN, seval, eT, iR, Bp, hk5]
  ·simp only [go_sem, fN, seval, eT, iR, AU, hj]
  ·simp only [go_sem, fN, seval, eT, iR]
  ·intro i hi
   simp only [List.mem_cons, List.not_mem_nil, or_false] at hi
   rcases hi with rfl | rfl | rfl | rfl | rfl <;> simp only [go_sem, fN, seval, eT, iR, n21, n22, n24, n28, n250]
  rintro env0 S0 ⟨hI, e19, e73, e74, e75, s190, hno⟩
  refine IWP.loopD [21, 22] (fun q s => ∃ k, k ≤ w.length ∧ q = w.length - k ∧ Ch S M m n d t h w s ∧ s.env 19 = .one (.row 190 (Br es n d 0 (w.take k)).length) ∧ s.env 73 = BI w ∧ s.env 74 = AQ w.length ∧ s.env 75 = AQ k ∧ s.S 190 = some (.arow 3 1 ((Br es n d 0 (w.take k)).map DQ)) ∧ ∀ i ∈ [21, 22, 24, 28, 250], s.S i = none) w.length
   ⟨0, Nat.zero_le _, rfl, hI, e19, e73, e74, e75, s190, hno⟩ ?_
  clear hI e19 e73 e74 e75 s190 hno
  rintro q ⟨env, S1⟩ ⟨k, hk, rfl, hI, e19, e73, e74, e75, s190, hno⟩
  obtain ⟨e0, e1, e8, e9, e10, e11, e12, e16, e17, e18, s8, s9, s10, s11, s12, s17, sj⟩ := id hI
  simp only at e0 e1 e8 e9 e10 e11 e12 e16 e17 e18 s8 s9 s10 s11 s12 s17 sj e19 e73 e74 e75 s190 hno
  have o21 := hno 21 (by simp)
  have o22 := hno 22 (by simp)
  have o24 := hno 24 (by simp)
  have o28 := hno 28 (by simp)
  have o250 := hno 250 (by simp)
  have sMM := (sj M hM).trans sM
  by_cases hlt : (k : Int) < w.length
  ·obtain ⟨a, ha⟩ := A1 (show k < w.length by omega)
   have hsn := GM es n d 0 ha
   have hsl := FK es n d (w.take k) 0
   rw [List.length_take] at hsl
   generalize hL : Br es n d 0 (w.take k) = L at *
   have hLl : (L.map DQ).length = L.length := List.length_map _
   repeat' with_reducible first | refine W ?_ | refine Z0 ?_ | ((first | refine Wo fun K hK => ?_ | refine Wp ?_ | refine Wq ?_ | refine Wr ?_); (try simp only [go_sem, fN, seval, eT, iR, e16, e17, e19, e73, e74, e75, s190, o21, o22, hlt, ha, AD, dT, dF, nL]); (repeat refine Ai ?_); (try (refine hK _ ?_; clear hK K)); try refine iC ?_)
   refine ⟨by kernel_rfl, _, _, Er _ M a.idx d n es hM (gi a (Ac ha)) ⟨hd0, hd1⟩ ⟨hn0, hn1⟩ hes (by simp only [go_sem, fN, seval, eT, iR, s11]) (by simp only [go_sem, fN, seval, eT, iR, s8]) (by simp only [go_sem, fN, seval, eT, iR, s9]) (by simp only [go_sem, fN, seval, eT, iR, AU, hM, sMM]), ?_⟩
   generalize hq : BE es n d a.idx = q at *
   obtain ⟨v, bo⟩ := q
   cases bo
   ·simp only [Bool.false_eq_true, if_false, List.append_nil] at hsn
    repeat' with_reducible first | refine W ?_ | refine Z0 ?_ | ((first | refine Wo fun K hK => ?_ | refine Wp ?_ | refine Wq ?_ | refine Wr ?_); (try simp only [go_sem, fN, seval, eT, iR, e16, e17, e19, e73, e74, e75, s190, o21, o22, hlt, ha, hLl, AD, dT, dF, nL]); (repeat refine Ai ?_); (try (refine hK _ ?_; clear hK K)); try refine iC ?_)
    refine AO ⟨w.length - (k + 1), by omega, k + 1, by omega, rfl, Ch.drop hS hM (by decide) (by decide) ⟨e0, e1, e8, e9, e10, e11, e12, e16, e17, e18, s8, s9, s10, s11, s12, s17, fun j hj => ?_⟩, ?_, ?_, ?_, ?_, ?_, ?_⟩
    ·have hj2 := sj j hj
     simp only [go_sem, fN, seval, eT, iR, AU, hj, hj2]
    ·rw [hsn]
     simp only [go_sem, fN, seval, AS.drop, AJ, AC.clears, AC.clear, AC.highs, AC.high, Bool.not_false, Bool.true_and, Bool.and_self, AV.purge, AV.purges, AC.purge, AF.purge, List.contains_cons, List.contains_nil, Nat.reduceBEq, Bool.or_self, Bool.or_false, Bool.false_or, Bool.or_true, eT, iR, e19]
    ·simp only [go_sem, fN, seval, AS.drop, AJ, AC.clears, AC.clear, AC.highs, AC.high, Bool.not_false, Bool.true_and, Bool.and_self, AV.purge, AV.purges, AC.purge, AF.purge, List.contains_cons, List.contains_nil, Nat.reduceBEq, Bool.or_self, Bool.or_false, Bool.false_or, Bool.or_true, eT, iR, e73]
    ·simp only [go_sem, fN, seval, AS.drop, AJ, AC.clears, AC.clear, AC.highs, AC.high, Bool.not_false, Bool.true_and, Bool.and_self, AV.purge, AV.purges, AC.purge, AF.purge, List.contains_cons, List.contains_nil, Nat.reduceBEq, Bool.or_self, Bool.or_false, Bool.false_or, Bool.or_true, eT, iR, e74]
    ·rfl
    ·rw [hsn]
     simp only [go_sem, fN, seval, AS.drop, AJ, AC.clears, AC.clear, AC.highs, AC.high, Bool.not_false, Bool.true_and, Bool.and_self, AV.purge, AV.purges, AC.purge, AF.purge, List.contains_cons, List.contains_nil, Nat.reduceBEq, Bool.or_self, Bool.or_false, Bool.false_or, Bool.or_true, eT, iR, s190]
    ·simp only [go_sem, fN, seval, AS.drop, AJ, AC.clears, AC.clear, AC.highs, AC.high, Bool.not_false, Bool.true_and, Bool.and_self, AV.purge, AV.purges, AC.purge, AF.purge, List.contains_cons, List.contains_nil, Nat.reduceBEq, Bool.or_self, Bool.or_false, Bool.false_or, Bool.or_true, eT, iR, o24, o28, o250]
   ·simp only [if_true, Int.zero_add] at hsn
    repeat' with_reducible first | refine W ?_ | refine Z0 ?_ | ((first | refine Wo fun K hK => ?_ | refine Wp ?_ | refine Wq ?_ | refine Wr ?_); (try simp only [go_sem, fN, seval, eT, iR, e16, e17, e19, e73, e74, e75, s190, o21, o22, hlt, ha, hLl, AD, dT, dF, nL]); (repeat refine Ai ?_); (try (refine hK _ ?_; clear hK K)); try refine iC ?_)
    refine AO ⟨w.length - (k + 1), by omega, k + 1, by omega, rfl, Ch.drop hS hM (by decide) (by decide) ⟨e0, e1, e8, e9, e10, e11, e12, e16, e17, e18, s8, s9, s10, s11, s12, s17, fun j hj => ?_⟩, ?_, ?_, ?_, ?_, ?_, ?_⟩
    ·have hj2 := sj j hj
     simp only [go_sem, fN, seval, eT, iR, AU, hj, hj2]
    ·rw [hsn]
     simp only [go_sem, fN, seval, AS.drop, AJ, AC.clears, AC.clear, AC.highs, AC.high, Bool.not_false, Bool.true_and, Bool.and_self, AV.purge, AV.purges, AC.purge, AF.purge, List.contains_cons, List.contains_nil, Nat.reduceBEq, Bool.or_self, Bool.or_false, Bool.false_or, Bool.or_true, eT, iR]
    ·simp only [go_sem, fN, seval, AS.drop, AJ, AC.clears, AC.clear, AC.highs, AC.high, Bool.not_false, Bool.true_and, Bool.and_self, AV.purge, AV.purges, AC.purge, AF.purge, List.contains_cons, List.contains_nil, Nat.reduceBEq, Bool.or_self, Bool.or_false, Bool.false_or, Bool.or_true, eT, iR, e73]
    ·simp only [go_sem, fN, seval, AS.drop, AJ, AC.clears, AC.clear, AC.highs, AC.high, Bool.not_false, Bool.true_and, Bool.and_self, AV.purge, AV.purges, AC.purge, AF.purge, List.contains_cons, List.contains_nil, Nat.reduceBEq, Bool.or_self, Bool.or_false, Bool.false_or, Bool.or_true, eT, iR, e74]
    ·rfl
    ·rw [hsn, List.map_append]
     simp only [go_sem, fN, seval, AS.drop, AJ, AC.clears, AC.clear, AC.highs, AC.high, Bool.not_false, Bool.true_and, Bool.and_self, AV.purge, AV.purges, AC.purge, AF.purge, List.contains_cons, List.contains_nil, Nat.reduceBEq, Bool.or_self, Bool.or_false, Bool.false_or, Bool.or_true, eT, iR, DQ]
    ·simp only [go_sem, fN, seval, AS.drop, AJ, AC.clears, AC.clear, AC.highs, AC.high, Bool.not_false, Bool.true_and, Bool.and_self, AV.purge, AV.purges, AC.purge, AF.purge, List.contains_cons, List.contains_nil, Nat.reduceBEq, Bool.or_self, Bool.or_false, Bool.false_or, Bool.or_true, eT, iR, o24, o28, o250]
  ·have hke : k = w.length := by omega
   rw [hke, List.take_length] at e19 s190
   have hsl := FK es n d w 0
   have hsm : ∀ j ∈ Br es n d 0 w, 0 ≤ j ∧ j < w.length := fun j hj => by have := HA es n d hj; omega
   generalize hL : Br es n d 0 w = L at *
   have hLl : (L.map DQ).length = L.length := List.length_map _
   by_cases hlt2 : L.length < w.length
   case' pos =>
    have hlt2' : ((L.length : Nat) : Int) < w.length := by omega
    have hf := KC S Kn sG sK (by omega)
    obtain ⟨i, hi⟩ : ∃ i : Nat, h.idx = (i : Int) := ⟨h.idx.toNat, by omega⟩
    have hiK : i < Kn.length := by omega
    rw [if_pos hlt2] at ht
    have hgv : In Kn h.idx L w.length = (Kn ++ [Lm.nil]).set i (Bn (C1 (mU Kn.length) (CO L w.length)) w.length) := by unfold In; rw [hi]; rfl
    rw [hgv] at ht
    simp only [Option.some.injEq, Prod.mk.injEq] at ht
    obtain ⟨rfl, hx, rfl⟩ := ht
    generalize mU Kn.length = u at *
    have hc1 := G5 L w.length ⟨by omega, by omega⟩ (fun j hj => by have := hsm j hj; omega) (by omega)
    generalize CO L w.length = cw at *
    have hc2 := GB u cw
    generalize C1 u cw = z at *
    have hc3 := FH z w.length (by omega)
    generalize Bn z w.length = v at *
    repeat' with_reducible first | refine W ?_ | refine Z0 ?_ | ((first | refine Wo fun K hK => ?_ | refine Wp ?_ | refine Wq ?_ | refine Wr ?_); (try simp only [go_sem, fN, seval, eT, iR, e0, e17, e18, e19, e73, e74, e75, s190, hlt, hLl, hlt2', dT, dF, nL]); (repeat refine Ai ?_); (try (refine hK _ ?_; clear hK K)); try refine iC ?_)
    refine CC (vs := [.one (.ptr 2023 1 0 0)]) (by simp [CY, outV, outC, stC]) rfl hS sj hf ?_
    have t23 : BD S1 (BG S (Kn ++ [Lm.nil])) 2023 = some (Ag 2021 (Kn.length + 1)) := by rw [Ah (by decide), El, List.length_append]; rfl
    have t21 : BD S1 (BG S (Kn ++ [Lm.nil])) 2021 = some (Ad (Kn ++ [Lm.nil])) := by rw [Ah (by decide), Ed]
    have tl : ∀ j, j < 1000 → BD S1 (BG S (Kn ++ [Lm.nil])) j = S1 j := fun j hj => Aw hj
    have tj : ∀ j, 1000 ≤ j → j ≠ 2023 → j ≠ 2021 → BD S1 (BG S (Kn ++ [Lm.nil])) j = S j := fun j hj h1 h2 => by rw [Ah hj, Cx h1 h2]
    have hil : i < Kn.length + 1 := by omega
    have hK1l : ((Kn ++ [Lm.nil]).map Af).length = Kn.length + 1 := by rw [List.length_map, List.length_append]; rfl
    obtain ⟨k0, hk0⟩ := A1 (show i < (Kn ++ [Lm.nil]).length by rw [List.length_append]; show i < Kn.length + 1; omega)
    generalize BD S1 (BG S (Kn ++ [Lm.nil])) = S2 at *
    have u8 := (tl 8 (by omega)).trans s8
    have u9 := (tl 9 (by omega)).trans s9
    have u10 := (tl 10 (by omega)).trans s10
    have u11 := (tl 11 (by omega)).trans s11
    have u12 := (tl 12 (by omega)).trans s12
    have u17 := (tl 17 (by omega)).trans s17
    have u24 := (tl 24 (by omega)).trans o24
    have u28 := (tl 28 (by omega)).trans o28
    have u250 := (tl 250 (by omega)).trans o250
    have u190 := (tl 190 (by omega)).trans s190
    repeat' (first | (with_reducible first | refine W ?_ | refine Z0 ?_ | ((first | refine Wo fun K hK => ?_ | refine Wp ?_ | refine Wq ?_ | refine Wr ?_); (try simp only [go_sem, fN, seval, eT, iR, e0, e17, e18, e19, e73, e74, e75, t23, t21, u8, u9, u10, u11, u12, u17, u24, u190, hi, hlt, hLl, hK1l, hil, hk0, hlt2', AD, dT, dF, nL]); (repeat refine Ai ?_); (try (refine hK _ ?_; clear hK K)); try refine iC ?_)) | refine Cg _ (hc1) ?_ | refine Cg _ (hc2) ?_ | refine Cg _ (hc3) ?_)
    obtain ⟨U, hU⟩ : ∃ U : AA, U = BG S ((Kn ++ [Lm.nil]).set i v) := ⟨_, rfl⟩
    have hUc : A7 U := by rw [hU]; exact A0 (G := 2023) (KB := 2021) hS (by decide) (by decide)
    have sUM : U M = some (BW es) := by rw [hU, Cx hM1 hM2]; exact sM
    have hUj : ∀ j, 1000 ≤ j → (if j = 2021 then some (.mrow 24 3 (((Kn ++ [Lm.nil]).map Af).set i [.int .i64 v.kind, .int .i64 v.idx, .list (v.subs.map Af)])) else S2 j) = U j := fun j hj => by
     rw [hU]
     by_cases h1 : j = 2021
     ·subst h1
      rw [Ed]
      simp only [go_sem, fN, seval, eT, iR, Ad, List.map_set, AD]
     ·by_cases h2 : j = 2023
      ·subst h2
       rw [El, List.length_set, List.length_append]
       simp only [go_sem, fN, seval, eT, iR, t23]
      ·have hj2 := tj j hj h2 h1
       rw [Cx h2 h1]
       simp only [go_sem, fN, seval, eT, iR, AU, hj, h1, hj2]
    obtain ⟨h0, hh0⟩ : ∃ h0 : Lm, h0 = u := ⟨_, rfl⟩
    rw [← hh0] at hx
    rw [← hU]
    refine IWP.ghost (Ar.own 25 250 24 3 (xs := ([] : List (List SV))) rfl (by simp only [go_sem, fN, seval, eT, iR, u250]) (by simp) (by omega)) ?_
    refine IWP.atT (fun e s => Ch U M m n d t h0 w ⟨e, s⟩ ∧ e 25 = .one (.row 250 0) ∧ e 117 = .one (.row 190 L.length) ∧ e 118 = AQ L.length ∧ e 119 = AQ 0 ∧ s 190 = some (.arow 3 1 (L.map DQ)) ∧ s 250 = some (.arow 24 3 []) ∧ s 28 = none) ⟨⟨e0, e1, e8, e9, e10, e11, e12, e16, e17, e18, ?_, ?_, ?_, ?_, ?_, ?_, fun j hj => ?_⟩, rfl, rfl, rfl, rfl, ?_, ?_, ?_⟩ ?_
    ·simp only [go_sem, fN, seval, eT, iR, u8]
    ·simp only [go_sem, fN, seval, eT, iR, u9]
    ·simp only [go_sem, fN, seval, eT, iR, u10]
    ·simp only [go_sem, fN, seval, eT, iR, u11]
    ·simp only [go_sem, fN, seval, eT, iR, u12]
    ·rw [hh0]
     simp only [go_sem, fN, seval, eT, iR]
    ·have hj2 := hUj j hj
     simp only [go_sem, fN, seval, eT, iR, AU, hj, hj2]
    ·simp only [go_sem, fN, seval, eT, iR, u190]
    ·rfl
    ·simp only [go_sem, fN, seval, eT, iR, u28]
   case' neg =>
    have hlt2' : ¬ ((L.length : Nat) : Int) < w.length := by omega
    rw [if_neg hlt2] at ht
    simp only [Option.some.injEq, Prod.mk.injEq] at ht
    obtain ⟨rfl, hx, rfl⟩ := ht
    rw [hself]
    repeat' with_reducible first | refine W ?_ | refine Z0 ?_ | ((first | refine Wo fun K hK => ?_ | refine Wp ?_ | refine Wq ?_ | refine Wr ?_); (try simp only [go_sem, fN, seval, eT, iR, e0, e17, e18, e19, e73, e74, e75, s190, hlt, hLl, hlt2', dT, dF, nL]); (repeat refine Ai ?_); (try (refine hK _ ?_; clear hK K)); try refine iC ?_)
    obtain ⟨U, hU⟩ : ∃ U : AA, U = S := ⟨_, rfl⟩
    have hUc : A7 U := by rw [hU]; exact hS
    have sUM : U M = some (BW es) := by rw [hU]; exact sM
    obtain ⟨h0, hh0⟩ : ∃ h0 : Lm, h0 = h := ⟨_, rfl⟩
    rw [← hh0] at hx
    rw [← hU]
    refine IWP.ghost (Ar.own 25 250 24 3 (xs := ([] : List (List SV))) rfl (by simp only [go_sem, fN, seval, eT, iR, o250]) (by simp) (by omega)) ?_
    refine IWP.atT (fun e s => Ch U M m n d t h0 w ⟨e, s⟩ ∧ e 25 = .one (.row 250 0) ∧ e 117 = .one (.row 190 L.length) ∧ e 118 = AQ L.length ∧ e 119 = AQ 0 ∧ s 190 = some (.arow 3 1 (L.map DQ)) ∧ s 250 = some (.arow 24 3 []) ∧ s 28 = none) ⟨⟨e0, e1, e8, e9, e10, e11, e12, e16, e17, e18, ?_, ?_, ?_, ?_, ?_, ?_, fun j hj => ?_⟩, rfl, rfl, rfl, rfl, ?_, ?_, ?_⟩ ?_
    ·simp only [go_sem, fN, seval, eT, iR, s8]
    ·simp only [go_sem, fN, seval, eT, iR, s9]
    ·simp only [go_sem, fN, seval, eT, iR, s10]
    ·simp only [go_sem, fN, seval, eT, iR, s11]
    ·simp only [go_sem, fN, seval, eT, iR, s12]
    ·rw [hh0]
     simp only [go_sem, fN, seval, eT, iR, s17]
    ·have hj2 := sj j hj
     rw [hU]
     simp only [go_sem, fN, seval, eT, iR, AU, hj, hj2]
    ·simp only [go_sem, fN, seval, eT, iR, s190]
    ·rfl
    ·simp only [go_sem, fN, seval, eT, iR, o28]
   all_goals
    clear hI e0 e1 e8 e9 e10 e11 e12 e16 e17 e18 s8 s9 s10 s11 s12 s17 sj e19 e73 e74 e75 s190 hno
    rintro env0 S0 ⟨hI, e25, e117, e118, e119, s190, s250, z28⟩
    have lst_len : ∀ k, k ≤ L.length → (((L.take k).map fun i => (BE es n d (w.getD i.toNat .nil).idx).1).map Af).length = k := fun k hk => by rw [List.length_map, List.length_map, List.length_take]; omega
    refine IWP.loopD [28] (fun q s => ∃ k, k ≤ L.length ∧ q = L.length - k ∧ Ch U M m n d t h0 w s ∧ s.env 25 = .one (.row 250 k) ∧ s.env 117 = .one (.row 190 L.length) ∧ s.env 118 = AQ L.length ∧ s.env 119 = AQ k ∧ s.S 190 = some (.arow 3 1 (L.map DQ)) ∧ s.S 250 = some (.arow 24 3 (((L.take k).map fun i => (BE es n d (w.getD i.toNat .nil).idx).1).map Af)) ∧ s.S 28 = none) L.length
     ⟨0, Nat.zero_le _, rfl, hI, e25, e117, e118, e119, s190, s250, z28⟩ ?_
    clear hI e25 e117 e118 e119 s190 s250 z28
    rintro q ⟨env, S1⟩ ⟨k, hk, rfl, hI, e25, e117, e118, e119, s190, s250, z28⟩
    obtain ⟨e0, e1, e8, e9, e10, e11, e12, e16, e17, e18, s8, s9, s10, s11, s12, s17, sj⟩ := id hI
    simp only at e0 e1 e8 e9 e10 e11 e12 e16 e17 e18 s8 s9 s10 s11 s12 s17 sj e25 e117 e118 e119 s190 s250 z28
    have sMM := (sj M hM).trans sUM
    have hlk := lst_len k hk
    by_cases hlt3 : (k : Int) < L.length
    ·obtain ⟨j, hj⟩ := A1 (show k < L.length by omega)
     have hj12 := hsm j (Ac hj)
     obtain ⟨jn, rfl⟩ : ∃ jn : Nat, j = (jn : Int) := ⟨j.toNat, by omega⟩
     have hjw : jn < w.length := by omega
     obtain ⟨a, ha⟩ := A1 hjw
     have hga : w.getD jn .nil = a := by rw [List.getD_eq_getElem?_getD, ha]; rfl
     have hsn : (((L.take (k + 1)).map fun i => (BE es n d (w.getD i.toNat .nil).idx).1).map Af) = (((L.take k).map fun i => (BE es n d (w.getD i.toNat .nil).idx).1).map Af) ++ [Af (BE es n d a.idx).1] := by
      rw [A9 hj, List.map_append, List.map_append]
      simp only [List.map_cons, List.map_nil, Int.toNat_natCast, hga]
     generalize hX : ((L.take k).map fun i => (BE es n d (w.getD i.toNat .nil).idx).1).map Af = X at *
     repeat' with_reducible first | refine W ?_ | refine Z0 ?_ | ((first | refine Wo fun K hK => ?_ | refine Wp ?_ | refine Wq ?_ | refine Wr ?_); (try simp only [go_sem, fN, seval, eT, iR, e16, e17, e18, e25, e117, e118, e119, s190, s250, z28, hlt3, hj, ha, hjw, hlk, hLl, DQ, AD, dT, dF, nL]); (repeat refine Ai ?_); (try (refine hK _ ?_; clear hK K)); try refine iC ?_)
     refine ⟨by kernel_rfl, _, _, Er _ M a.idx d n es hM (gi a (Ac ha)) ⟨hd0, hd1⟩ ⟨hn0, hn1⟩ hes s11 s8 s9 sMM, ?_⟩
     generalize hq : BE es n d a.idx = q at *
     obtain ⟨v1, bo⟩ := q
     repeat' with_reducible first | refine W ?_ | refine Z0 ?_ | ((first | refine Wo fun K hK => ?_ | refine Wp ?_ | refine Wq ?_ | refine Wr ?_); (try simp only [go_sem, fN, seval, eT, iR, e16, e17, e18, e25, e117, e118, e119, s190, s250, z28, hlt3, hj, ha, hjw, hlk, hLl, DQ, AD, dT, dF, nL]); (repeat refine Ai ?_); (try (refine hK _ ?_; clear hK K)); try refine iC ?_)
     refine AO ⟨L.length - (k + 1), by omega, k + 1, by omega, rfl, Ch.drop hUc hM (by decide) (by decide) ⟨e0, e1, e8, e9, e10, e11, e12, e16, e17, e18, s8, s9, s10, s11, s12, s17, fun j hj => ?_⟩, ?_, ?_, ?_, ?_, ?_, ?_, ?_⟩
     ·have hj2 := sj j hj
      simp only [go_sem, fN, seval, eT, iR, AU, hj, hj2]
     ·simp only [go_sem, fN, seval, AS.drop, AJ, AC.clears, AC.clear, AC.highs, AC.high, Bool.not_false, Bool.true_and, Bool.and_self, AV.purge, AV.purges, AC.purge, AF.purge, List.contains_cons, List.contains_nil, Nat.reduceBEq, Bool.or_self, Bool.or_false, Bool.false_or, Bool.or_true, eT, iR]
     ·simp only [go_sem, fN, seval, AS.drop, AJ, AC.clears, AC.clear, AC.highs, AC.high, Bool.not_false, Bool.true_and, Bool.and_self, AV.purge, AV.purges, AC.purge, AF.purge, List.contains_cons, List.contains_nil, Nat.reduceBEq, Bool.or_self, Bool.or_false, Bool.false_or, Bool.or_true, eT, iR, e117]
     ·simp only [go_sem, fN, seval, AS.drop, AJ, AC.clears, AC.clear, AC.highs, AC.high, Bool.not_false, Bool.true_and, Bool.and_self, AV.purge, AV.purges, AC.purge, AF.purge, List.contains_cons, List.contains_nil, Nat.reduceBEq, Bool.or_self, Bool.or_false, Bool.false_or, Bool.or_true, eT, iR, e118]
     ·rfl
     ·simp only [go_sem, fN, seval, AS.drop, AJ, AC.clears, AC.clear, AC.highs, AC.high, Bool.not_false, Bool.true_and, Bool.and_self, AV.purge, AV.purges, AC.purge, AF.purge, List.contains_cons, List.contains_nil, Nat.reduceBEq, Bool.or_self, Bool.or_false, Bool.false_or, Bool.or_true, eT, iR, s190]
     ·rw [hsn]
      simp only [go_sem, fN, seval, AS.drop, AJ, AC.clears, AC.clear, AC.highs, AC.high, Bool.not_false, Bool.true_and, Bool.and_self, AV.purge, AV.purges, AC.purge, AF.purge, List.contains_cons, List.contains_nil, Nat.reduceBEq, Bool.or_self, Bool.or_false, Bool.false_or, Bool.or_true, eT, iR, AD]
     ·rfl
    ·have hke : k = L.length := by omega
     rw [hke, List.take_length] at s250
     rw [hke] at e25
     rw [hke, List.take_length] at hlk
     have hc := GB h0 (L.map fun i => (BE es n d (w.getD i.toNat .nil).idx).1)
     rw [hx] at hc
     generalize (L.map fun i => (BE es n d (w.getD i.toNat .nil).idx).1) = X at *
     have hXl : X.length = L.length := by rw [← hlk, List.length_map]
     repeat' (first | (with_reducible first | refine W ?_ | refine Z0 ?_ | ((first | refine Wo fun K hK => ?_ | refine Wp ?_ | refine Wq ?_ | refine Wr ?_); (try simp only [go_sem, fN, seval, eT, iR, e16, e17, e18, e12, e25, e117, e118, e119, s12, s17, s190, s250, hlt3, hlk, hXl, AD, dT, dF, nL]); (repeat refine Ai ?_); (try (refine hK _ ?_; clear hK K)); try refine iC ?_)) | refine Cg _ (hc) ?_)
     refine AT (.tup [aLm x, An true]) hUc trivial ?_ rfl fun j hj => ?_
     ·simp only [go_sem, fN, seval, eT, iR, AG, AH, AY, e12]
     ·have hj2 := sj j hj
      simp only [go_sem, fN, seval, eT, iR, AU, hj, hj2]
 ·rw [if_neg hk5] at ht
  by_cases hbad : h.kind = 1 ∧ (BE es n d h.idx).2 = false
  ·obtain ⟨hk1, hnm⟩ := hbad
   rw [if_pos hk1, if_neg (by rw [hnm]; simp)] at ht
   cases ht
   repeat' (first | (with_reducible first | refine W ?_ | refine Z0 ?_ | ((first | refine Wo fun K hK => ?_ | refine Wp ?_ | refine Wq ?_ | refine Wr ?_); (try simp only [go_sem, fN, seval, eT, iR, AS.caps, n17, sG, sK, hk2, hk5, hk1, AD, dT, dF, nL]); (repeat refine Ai ?_); (try (refine hK _ ?_; clear hK K)); try refine iC ?_)) | refine Cg _ (hsp) ?_)
   refine ⟨by kernel_rfl, _, _, Er _ M h.idx d n es hM ghi ⟨hd0, hd1⟩ ⟨hn0, hn1⟩ hes (by simp only [go_sem, fN, seval, eT, iR]) (by simp only [go_sem, fN, seval, eT, iR]) (by simp only [go_sem, fN, seval, eT, iR]) (by simp only [go_sem, fN, seval, eT, iR, AU, hM, sM]), ?_⟩
   generalize hq : BE es n d h.idx = q at *
   obtain ⟨v, bo⟩ := q
   simp only at hnm
   subst hnm
   repeat' with_reducible first | refine W ?_ | refine Z0 ?_ | ((first | refine Wo fun K hK => ?_ | refine Wp ?_ | refine Wq ?_ | refine Wr ?_); (try simp only [go_sem, fN, seval, eT, iR, n30, hk2, hk5, hk1, AD, dT, dF, nL]); (repeat refine Ai ?_); (try (refine hK _ ?_; clear hK K)); try refine iC ?_)
   rw [hself]
   refine AT (.tup [aLm x, An false]) hS trivial ?_ rfl fun j hj => ?_
   ·simp only [go_sem, fN, seval, eT, iR, AG, AH, AY]
   ·simp only [go_sem, fN, seval, eT, iR, AU, hj]
  ·have hts : Ds f m es n Kn w d t (if h.kind = 1 then (BE es n d h.idx).1 else h) = some (K', x, b) := by
    split
    ·rename_i hk1
     rw [if_pos hk1] at ht
     split at ht
     ·exact ht
     ·rename_i hnm
      exact absurd ⟨hk1, by simpa using hnm⟩ hbad
    ·rename_i hk1
     rw [if_neg hk1] at ht
     exact ht
   by_cases hk1 : h.kind = 1
   case' pos =>
    rw [if_pos hk1] at hts
    have hnm : (BE es n d h.idx).2 = true := by simpa [hk1] using hbad
    repeat' (first | (with_reducible first | refine W ?_ | refine Z0 ?_ | ((first | refine Wo fun K hK => ?_ | refine Wp ?_ | refine Wq ?_ | refine Wr ?_); (try simp only [go_sem, fN, seval, eT, iR, AS.caps, n17, sG, sK, hk2, hk5, hk1, AD, dT, dF, nL]); (repeat refine Ai ?_); (try (refine hK _ ?_; clear hK K)); try refine iC ?_)) | refine Cg _ (hsp) ?_)
    refine ⟨by kernel_rfl, _, _, Er _ M h.idx d n es hM ghi ⟨hd0, hd1⟩ ⟨hn0, hn1⟩ hes (by simp only [go_sem, fN, seval, eT, iR]) (by simp only [go_sem, fN, seval, eT, iR]) (by simp only [go_sem, fN, seval, eT, iR]) (by simp only [go_sem, fN, seval, eT, iR, AU, hM, sM]), ?_⟩
    generalize hq : BE es n d h.idx = q at *
    obtain ⟨v, bo⟩ := q
    simp only at hnm hts
    subst hnm
    repeat' with_reducible first | refine W ?_ | refine Z0 ?_ | ((first | refine Wo fun K hK => ?_ | refine Wp ?_ | refine Wq ?_ | refine Wr ?_); (try simp only [go_sem, fN, seval, eT, iR, n30, hk2, hk5, hk1, AD, dT, dF, nL]); (repeat refine Ai ?_); (try (refine hK _ ?_; clear hK K)); try refine iC ?_)
    obtain ⟨h0, hh0⟩ : ∃ h0 : Lm, h0 = v := ⟨_, rfl⟩
    rw [← hh0] at hts
    refine IWP.atT (fun e s => Ch S M m n d t h0 w ⟨e, s⟩ ∧ e 155 = BI w ∧ e 156 = AQ w.length ∧ e 157 = AQ 0 ∧ s 33 = none ∧ s 34 = none) ⟨⟨rfl, rfl, rfl, rfl, rfl, rfl, rfl, rfl, rfl, rfl, ?_, ?_, ?_, ?_, ?_, ?_, fun j hj => ?_⟩, rfl, rfl, rfl, ?_, ?_⟩ ?_
    ·simp only [go_sem, fN, seval, eT, iR]
    ·simp only [go_sem, fN, seval, eT, iR]
    ·simp only [go_sem, fN, seval, eT, iR]
    ·simp only [go_sem, fN, seval, eT, iR]
    ·simp only [go_sem, fN, seval, eT, iR]
    ·rw [hh0]
     simp only [go_sem, fN, seval, eT, iR, Bp, AD]
    ·simp only [go_sem, fN, seval, eT, iR, AU, hj]
    ·simp only [go_sem, fN, seval, eT, iR, n33]
    ·simp only [go_sem, fN, seval, eT, iR, n34]
   case' neg =>
    rw [if_neg hk1] at hts
    repeat' (first | (with_reducible first | refine W ?_ | refine Z0 ?_ | ((first | refine Wo fun K hK => ?_ | refine Wp ?_ | refine Wq ?_ | refine Wr ?_); (try simp only [go_sem, fN, seval, eT, iR, AS.caps, n17, sG, sK, hk2, hk5, hk1, AD, dT, dF, nL]); (repeat refine Ai ?_); (try (refine hK _ ?_; clear hK K)); try refine iC ?_)) | refine Cg _ (hsp) ?_)
    obtain ⟨h0, hh0⟩ : ∃ h0 : Lm, h0 = h := ⟨_, rfl⟩
    rw [← hh0] at hts
    refine IWP.atT (fun e s => Ch S M m n d t h0 w ⟨e, s⟩ ∧ e 155 = BI w ∧ e 156 = AQ w.length ∧ e 157 = AQ 0 ∧ s 33 = none ∧ s 34 = none) ⟨⟨rfl, rfl, rfl, rfl, rfl, rfl, rfl, rfl, rfl, rfl, ?_, ?_, ?_, ?_, ?_, ?_, fun j hj => ?_⟩, rfl, rfl, rfl, ?_, ?_⟩ ?_
    ·simp only [go_sem, fN, seval, eT, iR]
    ·simp only [go_sem, fN, seval, eT, iR]
    ·simp only [go_sem, fN, seval, eT, iR]
    ·simp only [go_sem, fN, seval, eT, iR]
    ·simp only [go_sem, fN, seval, eT, iR]
    ·rw [hh0]
     simp only [go_sem, fN, seval, eT, iR, Bp, AD]
    ·simp only [go_sem, fN, seval, eT, iR, AU, hj]
    ·simp only [go_sem, fN, seval, eT, iR, n33]
    ·simp only [go_sem, fN, seval, eT, iR, n34]
   all_goals
    rintro env0 S0 ⟨hI, e155, e156, e157, z33, z34⟩
    refine IWP.loopD [33, 34] (fun q s => ∃ (k g : Nat) (Kk : List Lm) (hk : Lm), k ≤ w.length ∧ q = w.length - k ∧ g ≤ f ∧ Ds g m es n Kk (w.drop k) d t hk = some (K', x, b) ∧ Ch (BG S Kk) M m n d t hk w s ∧ s.env 155 = BI w ∧ s.env 156 = AQ w.length ∧ s.env 157 = AQ k ∧ s.S 33 = none ∧ s.S 34 = none) w.length
     ⟨0, f, Kn, h0, Nat.zero_le _, rfl, Nat.le_refl _, hts, by rw [hself]; exact hI, e155, e156, e157, z33, z34⟩ ?_
    clear hI e155 e156 e157 z33 z34 hts hh0 h0
    rintro q ⟨env, S1⟩ ⟨k, g, Kk, h0, hk, rfl, hgf, hts, hI, e155, e156, e157, z33, z34⟩
    obtain ⟨e0, e1, e8, e9, e10, e11, e12, e16, e17, e18, s8, s9, s10, s11, s12, s17, sj⟩ := id hI
    simp only at e0 e1 e8 e9 e10 e11 e12 e16 e17 e18 s8 s9 s10 s11 s12 s17 sj e155 e156 e157 z33 z34
    have hcl : A7 (BG S Kk) := A0 (G := 2023) (KB := 2021) hS (by decide) (by decide)
    have sMM : BG S Kk M = some (BW es) := by rw [Cx hM1 hM2]; exact sM
    cases g with
    | zero => simp [Ds] at hts
    | succ g =>
    by_cases hlt : (k : Int) < w.length
    ·obtain ⟨a, ha⟩ := A1 (show k < w.length by omega)
     have hdr : w.drop k = a :: w.drop (k + 1) := by
      obtain ⟨hlk, hak⟩ := List.getElem?_eq_some_iff.1 ha
      rw [List.drop_eq_getElem_cons hlk, hak]
     rw [hdr] at hts
     unfold Ds at hts
     cases htp : GA g m es n Kk a d with
     | none => rw [htp] at hts; cases hts
     | some p =>
      obtain ⟨K2, xa, bo⟩ := p
      rw [htp] at hts
      have hc := ih g (by omega) (BG S Kk) Kk K2 M m n d es a xa bo htp hM hM1 hM2 El Ed sMM
      rw [show BG (BG S Kk) K2 = BG S K2 from Fg (by decide)] at hc
      repeat' with_reducible first | refine W ?_ | refine Z0 ?_ | ((first | refine Wo fun K hK => ?_ | refine Wp ?_ | refine Wq ?_ | refine Wr ?_); (try simp only [go_sem, fN, seval, eT, iR, e0, e1, e8, e9, e10, e11, e12, e155, e156, e157, s8, s9, s10, s11, s12, s17, z33, z34, hlt, ha, AD, dT, dF, nL]); (repeat refine Ai ?_); (try (refine hK _ ?_; clear hK K)); try refine iC ?_)
      refine CC (vs := [.one (.ptr 2023 1 0 0), AQ m, .one (.mptr M), AQ n, aLm a, AQ d]) (by simp [CY, outV, outC, stC, outCs]) (by simp [AV.highs, AV.high, AC.highs, AC.high, hM]) hcl (fun j hj => by have hj2 := sj j hj; (simp only [go_sem, fN, seval, eT, iR, AU, hj, hj2])) hc ?_
      generalize hS2 : BD _ (BG S K2) = S2
      have u33 : S2 33 = some (Bp a) := by rw [← hS2, Aw (by decide)]; (simp only [go_sem, fN, seval, eT, iR, AD])
      have u34 : S2 34 = none := by rw [← hS2, Aw (by decide)]; (simp only [go_sem, fN, seval, eT, iR, z34])
      have u8 : S2 8 = some (.box 48 [.mptr M]) := by rw [← hS2, Aw (by decide)]; (simp only [go_sem, fN, seval, eT, iR, s8])
      have u9 : S2 9 = some (.box 3 [.st (.int .i64 n)]) := by rw [← hS2, Aw (by decide)]; (simp only [go_sem, fN, seval, eT, iR, s9])
      have u10 : S2 10 = some (Bp t) := by rw [← hS2, Aw (by decide)]; (simp only [go_sem, fN, seval, eT, iR, s10])
      have u11 : S2 11 = some (.box 3 [.st (.int .i64 d)]) := by rw [← hS2, Aw (by decide)]; (simp only [go_sem, fN, seval, eT, iR, s11])
      have u12 : S2 12 = some GZ := by rw [← hS2, Aw (by decide)]; (simp only [go_sem, fN, seval, eT, iR, s12])
      have u17 : S2 17 = some (Bp h0) := by rw [← hS2, Aw (by decide)]; (simp only [go_sem, fN, seval, eT, iR, s17])
      have uj : ∀ j, 1000 ≤ j → S2 j = BG S K2 j := fun j hj => by rw [← hS2, Ah hj]
      clear hS2
      have hcl2 : A7 (BG S K2) := A0 (G := 2023) (KB := 2021) hS (by decide) (by decide)
      cases bo with
      | false =>
       simp only [Option.some.injEq, Prod.mk.injEq] at hts
       obtain ⟨rfl, rfl, rfl⟩ := hts
       repeat' with_reducible first | refine W ?_ | refine Z0 ?_ | ((first | refine Wo fun K hK => ?_ | refine Wp ?_ | refine Wq ?_ | refine Wr ?_); (try simp only [go_sem, fN, seval, eT, iR, e0, e1, e8, e9, e10, e11, e12, e155, e156, e157, u8, u9, u10, u11, u12, u17, u33, u34, hlt, ha, AD, dT, dF, nL]); (repeat refine Ai ?_); (try (refine hK _ ?_; clear hK K)); try refine iC ?_)
       refine AT (.tup [aLm t, An false]) hcl2 trivial ?_ rfl fun j hj => ?_
       ·simp only [go_sem, fN, seval, eT, iR, AG, AH, AY, e12]
       ·have hj2 := uj j hj
        simp only [go_sem, fN, seval, eT, iR, AU, hj, hj2]
      | true =>
       simp only at hts
       repeat' (first | (with_reducible first | refine W ?_ | refine Z0 ?_ | ((first | refine Wo fun K hK => ?_ | refine Wp ?_ | refine Wq ?_ | refine Wr ?_); (try simp only [go_sem, fN, seval, eT, iR, e0, e1, e8, e9, e10, e11, e12, e17, e155, e156, e157, u8, u9, u10, u11, u12, u17, u33, u34, hlt, ha, AD, dT, dF, nL]); (repeat refine Ai ?_); (try (refine hK _ ?_; clear hK K)); try refine iC ?_)) | refine Cg _ (Nl h0 xa) ?_)
       refine AO ⟨w.length - (k + 1), by omega, k + 1, g, K2, Lm.a h0 xa, by omega, rfl, by omega, hts, Ch.drop hcl2 hM (by decide) (by decide) ⟨e0, e1, e8, e9, e10, e11, e12, e16, e17, e18, u8, u9, u10, u11, u12, ?_, fun j hj => ?_⟩, ?_, ?_, ?_, ?_, ?_⟩
       ·simp only [go_sem, fN, seval, eT, iR, Bp, AD]
       ·have hj2 := uj j hj
        simp only [go_sem, fN, seval, eT, iR, AU, hj, hj2]
       ·simp only [go_sem, fN, seval, AS.drop, AJ, AC.clears, AC.clear, AC.highs, AC.high, Bool.not_false, Bool.true_and, Bool.and_self, AV.purge, AV.purges, AC.purge, AF.purge, List.contains_cons, List.contains_nil, Nat.reduceBEq, Bool.or_self, Bool.or_false, Bool.false_or, Bool.or_true, eT, iR, e155]
       ·simp only [go_sem, fN, seval, AS.drop, AJ, AC.clears, AC.clear, AC.highs, AC.high, Bool.not_false, Bool.true_and, Bool.and_self, AV.purge, AV.purges, AC.purge, AF.purge, List.contains_cons, List.contains_nil, Nat.reduceBEq, Bool.or_self, Bool.or_false, Bool.false_or, Bool.or_true, eT, iR, e156]
       ·rfl
       ·rfl
       ·rfl
    ·have hke : k = w.length := by omega
     rw [hke, List.drop_length, Ds] at hts
     simp only [Option.some.injEq, Prod.mk.injEq] at hts
     obtain ⟨rfl, rfl, rfl⟩ := hts
     repeat' with_reducible first | refine W ?_ | refine Z0 ?_ | ((first | refine Wo fun K hK => ?_ | refine Wp ?_ | refine Wq ?_ | refine Wr ?_); (try simp only [go_sem, fN, seval, eT, iR, e12, e17, e155, e156, e157, s12, s17, hlt, AD, dT, dF, nL]); (repeat refine Ai ?_); (try (refine hK _ ?_; clear hK K)); try refine iC ?_)
     refine AT (.tup [aLm h0, An true]) hcl trivial ?_ rfl fun j hj => ?_
     ·simp only [go_sem, fN, seval, eT, iR, AG, AH, AY, e12]
     ·have hj2 := sj j hj
      simp only [go_sem, fN, seval, eT, iR, AU, hj, hj2]

theorem JH : ∀ {x : List Lm} {k : Nat} {a : Lm} (i : Int) (es : List (Int × Int)), x[k]? = some a → atP i es (x.take (k + 1)) = D3 (atP i es (x.take k)) a.idx (i + k)
 | [], _, _, _, _, h => by simp at h
 | x :: xs, 0, a, i, es, h1 => by
  simp only [List.getElem?_cons_zero, Option.some.injEq] at h1
  subst h1
  simp [atP]
 | x :: xs, k + 1, a, i, es, h1 => by
  rw [List.getElem?_cons_succ] at h1
  have ih := JH (i + 1) (D3 es x.idx i) h1
  have e : i + 1 + (k : Int) = i + ((k + 1 : Nat) : Int) := by omega
  rw [e] at ih
  rw [List.take_succ_cons, List.take_succ_cons, atP, atP, ih]
theorem IH : ∀ (es : List (Int × Int)) (k v : Int), (D3 es k v).length ≤ es.length + 1
 | [], _, _ => by simp [D3]
 | p :: es, k, v => by
  unfold D3
  have := IH es k v
  split <;> simp only [List.length_cons] <;> omega
abbrev CI (S : AA) (Kn : List Lm) : AA := Ci S 1023 1021 Kn
theorem Hj {S : AA} {Kn : List Lm} : CI S Kn 1023 = some (Ag 1021 Kn.length) := Fs (by decide)
theorem H2 {S : AA} {Kn : List Lm} : CI S Kn 1021 = some (Ad Kn) := Fo
theorem Ir {S : AA} {i : Nat} {Kn : List Lm} (h1 : i ≠ 1023) (h2 : i ≠ 1021) : CI S Kn i = S i := Dk h1 h2
theorem Hx {S : AA} {i : Nat} {b : Option AF} (h : S i = b) : AN S i b = S := by
 funext j
 by_cases e : j = i
 ·subst e; rw [AE, h]
 ·rw [AR _ e]
theorem MR {T : AA} {b : AF} {Kn K' : List Lm} (h : T 14 = some b) : upS (Bs T [(14, b, b), (1023, Ag 1021 Kn.length, Ag 1021 K'.length), (1021, Ad Kn, Ad K')]) = BG (upS T) K' := by
 show upS (AN (AN (AN T 14 (some b)) 1023 (some (Ag 1021 K'.length))) 1021 (some (Ad K'))) = _
 rw [Hx h, Cp, Cp]
 rfl
theorem Jk (S : AA) (Kn K' : List Lm) (f : Nat) (m : Int) (x : List Lm) (t : Lm) (b : Bool) (hb : KO f Kn m x t = some (K', b)) (sG : S 1023 = some (Ag 1021 Kn.length)) (sK : S 1021 = some (Ad Kn)) :
  Aj Tryd.prog 38 [.one (.ptr 1023 1 0 0), AQ m, BI x, aLm t] S (An b) (CI S K') := by
 unfold KO at hb
 split at hb
 ·cases hb
 rename_i hc
 simp only [Decidable.not_not] at hc
 obtain ⟨hm0, hmK, hx1⟩ := hc
 obtain ⟨i, rfl⟩ : ∃ i : Nat, m = (i : Int) := ⟨m.toNat, by omega⟩
 rw [Int.toNat_natCast] at hb hmK
 have hxl : (x.map Af).length = x.length := List.length_map _
 refine B_.acS fun hS C hC => ?_
 unfold BX
 have n7 := AZ hS (i := 7) (by omega)
 have n11 := AZ hS (i := 11) (by omega)
 have n12 := AZ hS (i := 12) (by omega)
 have n14 := AZ hS (i := 14) (by omega)
 repeat' with_reducible first | refine W ?_ | refine Z0 ?_ | ((first | refine Wo fun K hK => ?_ | refine Wp ?_ | refine Wq ?_ | refine Wr ?_); (try simp only [go_sem, fN, seval, eT, iR, AS.startS, n7, n14, dT, dF, nL]); (repeat refine Ai ?_); (try (refine hK _ ?_; clear hK K)); try refine iC ?_)
 refine IWP.loopD [11] (fun q s => ∃ k, k ≤ x.length ∧ q = x.length - k ∧ s.env 0 = .one (.ptr 1023 1 0 0) ∧ s.env 1 = AQ i ∧ s.env 2 = BI x ∧ s.env 7 = .one (.ptr 7 1 0 0) ∧ s.env 9 = .one (.mptr 14) ∧ s.env 15 = BI x ∧ s.env 16 = AQ x.length ∧ s.env 17 = AQ k ∧ s.S 7 = some (Bp t) ∧ s.S 14 = some (BW (atP 0 [] (x.take k))) ∧ s.S 11 = none ∧ s.S 12 = none ∧ ∀ j, 1000 ≤ j → s.S j = S j) x.length
  ⟨0, Nat.zero_le _, rfl, rfl, rfl, rfl, rfl, rfl, rfl, rfl, rfl, by simp only [go_sem, fN, seval, eT, iR], by (simp only [go_sem, fN, seval, eT, iR]; rfl), by simp only [go_sem, fN, seval, eT, iR, n11], by simp only [go_sem, fN, seval, eT, iR, n12], fun j hj => by simp only [go_sem, fN, seval, eT, iR, AU, hj]⟩ ?_
 rintro q ⟨env, S1⟩ ⟨k, hk, rfl, e0, e1, e2, e7, e9, e15, e16, e17, s7, s14, s11, s12, hS1⟩
 simp only at e0 e1 e2 e7 e9 e15 e16 e17 s7 s14 s11 s12 hS1
 by_cases hlt : (k : Int) < x.length
 ·obtain ⟨a, ha⟩ := A1 (show k < x.length by omega)
  have hsn := JH 0 [] ha
  generalize atP 0 [] (x.take k) = es at *
  have hp := EE es a.idx k
  repeat' with_reducible first | refine W ?_ | refine Z0 ?_ | ((first | refine Wo fun K hK => ?_ | refine Wp ?_ | refine Wq ?_ | refine Wr ?_); (try simp only [go_sem, fN, seval, eT, iR, e0, e1, e2, e7, e9, e15, e16, e17, s7, s14, s11, hlt, ha, hp, Bq, DW, KV.of, KV.of1, AD, dT, dF, nL]); (repeat refine Ai ?_); (try (refine hK _ ?_; clear hK K)); try refine iC ?_)
  refine AO ⟨x.length - (k + 1), by omega, k + 1, by omega, rfl, ?_, ?_, ?_, ?_, ?_, ?_, ?_, ?_, ?_, ?_, ?_, ?_, fun j hj => CL hS (by decide) hj ?_⟩
  ·simp only [go_sem, fN, seval, AS.drop, AJ, AC.clears, AC.clear, AC.highs, AC.high, Bool.not_false, Bool.true_and, Bool.and_self, AV.purge, AV.purges, AC.purge, AF.purge, List.contains_cons, List.contains_nil, Nat.reduceBEq, Bool.or_self, Bool.or_false, Bool.false_or, Bool.or_true, eT, iR, e0]
  ·simp only [go_sem, fN, seval, AS.drop, AJ, AC.clears, AC.clear, AC.highs, AC.high, Bool.not_false, Bool.true_and, Bool.and_self, AV.purge, AV.purges, AC.purge, AF.purge, List.contains_cons, List.contains_nil, Nat.reduceBEq, Bool.or_self, Bool.or_false, Bool.false_or, Bool.or_true, eT, iR, e1]
  ·simp only [go_sem, fN, seval, AS.drop, AJ, AC.clears, AC.clear, AC.highs, AC.high, Bool.not_false, Bool.true_and, Bool.and_self, AV.purge, AV.purges, AC.purge, AF.purge, List.contains_cons, List.contains_nil, Nat.reduceBEq, Bool.or_self, Bool.or_false, Bool.false_or, Bool.or_true, eT, iR, e2]
  ·simp only [go_sem, fN, seval, AS.drop, AJ, AC.clears, AC.clear, AC.highs, AC.high, Bool.not_false, Bool.true_and, Bool.and_self, AV.purge, AV.purges, AC.purge, AF.purge, List.contains_cons, List.contains_nil, Nat.reduceBEq, Bool.or_self, Bool.or_false, Bool.false_or, Bool.or_true, eT, iR, e7]
  ·simp only [go_sem, fN, seval, AS.drop, AJ, AC.clears, AC.clear, AC.highs, AC.high, Bool.not_false, Bool.true_and, Bool.and_self, AV.purge, AV.purges, AC.purge, AF.purge, List.contains_cons, List.contains_nil, Nat.reduceBEq, Bool.or_self, Bool.or_false, Bool.false_or, Bool.or_true, eT, iR, e9]
  ·simp only [go_sem, fN, seval, AS.drop, AJ, AC.clears, AC.clear, AC.highs, AC.high, Bool.not_false, Bool.true_and, Bool.and_self, AV.purge, AV.purges, AC.purge, AF.purge, List.contains_cons, List.contains_nil, Nat.reduceBEq, Bool.or_self, Bool.or_false, Bool.false_or, Bool.or_true, eT, iR, e15]
  ·simp only [go_sem, fN, seval, AS.drop, AJ, AC.clears, AC.clear, AC.highs, AC.high, Bool.not_false, Bool.true_and, Bool.and_self, AV.purge, AV.purges, AC.purge, AF.purge, List.contains_cons, List.contains_nil, Nat.reduceBEq, Bool.or_self, Bool.or_false, Bool.false_or, Bool.or_true, eT, iR, e16]
  ·rfl
  ·simp only [go_sem, fN, seval, AS.drop, AJ, AC.clears, AC.clear, AC.highs, AC.high, Bool.not_false, Bool.true_and, Bool.and_self, AV.purge, AV.purges, AC.purge, AF.purge, List.contains_cons, List.contains_nil, Nat.reduceBEq, Bool.or_self, Bool.or_false, Bool.false_or, Bool.or_true, eT, iR, s7]
  ·rw [hsn, Int.zero_add]
   simp only [go_sem, fN, seval, AS.drop, AJ, AC.clears, AC.clear, AC.highs, AC.high, Bool.not_false, Bool.true_and, Bool.and_self, AV.purge, AV.purges, AC.purge, AF.purge, List.contains_cons, List.contains_nil, Nat.reduceBEq, Bool.or_self, Bool.or_false, Bool.false_or, Bool.or_true, eT, iR]
  ·rfl
  ·simp only [go_sem, fN, seval, AS.drop, AJ, AC.clears, AC.clear, AC.highs, AC.high, Bool.not_false, Bool.true_and, Bool.and_self, AV.purge, AV.purges, AC.purge, AF.purge, List.contains_cons, List.contains_nil, Nat.reduceBEq, Bool.or_self, Bool.or_false, Bool.false_or, Bool.or_true, eT, iR, s12]
  ·have hj2 := hS1 j hj
   simp only [go_sem, fN, seval, eT, iR, AU, hj, hj2]
 ·have hke : k = x.length := by omega
  rw [hke, List.take_length] at s14
  have h23 := (hS1 1023 (by omega)).trans sG
  have h21 := (hS1 1021 (by omega)).trans sK
  cases ht : GA f i (atP 0 [] x) x.length Kn t 0 with
  | none => rw [ht] at hb; cases hb
  | some p =>
   obtain ⟨K2, v, bo⟩ := p
   rw [ht] at hb
   generalize atP 0 [] x = es at *
   have hc : ∀ T : AA, Dj T [(14, BW es, BW es), (1023, Ag 1021 Kn.length, Ag 1021 K2.length), (1021, Ad Kn, Ad K2)] → Aj Tryd.prog 63 [.one (.ptr 2023 1 0 0), AQ i, .one (.mptr (up1 14)), AQ x.length, aLm t, AQ 0] (upS T) (.tup [aLm v, An bo]) (upS (Bs T [(14, BW es, BW es), (1023, Ag 1021 Kn.length, Ag 1021 K2.length), (1021, Ad Kn, Ad K2)])) := fun T hT => by
    have t14 := hT (14, BW es, BW es) (by simp)
    have t23 := hT (1023, Ag 1021 Kn.length, Ag 1021 K2.length) (by simp)
    have t21 := hT (1021, Ad Kn, Ad K2) (by simp)
    simp only at t14 t23 t21
    rw [MR t14]
    exact Nk f (upS T) Kn K2 (up1 14) i x.length 0 es t v bo ht (BR _) (by decide) (by decide) (by show upS T (up1 1023) = _; rw [BS, t23]; rfl) (by show upS T (up1 1021) = _; rw [BS, t21]; rfl) (by rw [BS, t14]; exact Mp es)
   repeat' with_reducible first | refine W ?_ | refine Z0 ?_ | ((first | refine Wo fun K hK => ?_ | refine Wp ?_ | refine Wq ?_ | refine Wr ?_); (try simp only [go_sem, fN, seval, eT, iR, e0, e1, e2, e7, e9, e15, e16, e17, s7, s14, s12, hlt, AD, dT, dF, nL]); (repeat refine Ai ?_); (try (refine hK _ ?_; clear hK K)); try refine iC ?_)
   refine ⟨_, _, (fun q hq => by
    simp only [List.mem_cons, List.not_mem_nil, or_false] at hq
    rcases hq with rfl | rfl | rfl
    ·exact s14
    ·exact h23
    ·exact h21), hc, ?_⟩
   have hsub : ∀ j, Bs S1 [(14, BW es, BW es), (1023, Ag 1021 Kn.length, Ag 1021 K2.length), (1021, Ad Kn, Ad K2)] j = if j = 1021 then some (Ad K2) else if j = 1023 then some (Ag 1021 K2.length) else S1 j := fun j => by
    show AN (AN (AN S1 14 (some (BW es))) 1023 (some (Ag 1021 K2.length))) 1021 (some (Ad K2)) j = _
    rw [Hx s14]
    rfl
   generalize Bs S1 _ = S2 at hsub ⊢
   have u21 : S2 1021 = some (Ad K2) := by rw [hsub, if_pos rfl]
   have u23 : S2 1023 = some (Ag 1021 K2.length) := by rw [hsub, if_neg (by decide), if_pos rfl]
   have u7 : S2 7 = some (Bp t) := by rw [hsub, if_neg (by decide), if_neg (by decide), s7]
   have u12 : S2 12 = none := by rw [hsub, if_neg (by decide), if_neg (by decide), s12]
   have uj : ∀ j, 1000 ≤ j → j ≠ 1023 → j ≠ 1021 → S2 j = S j := fun j hj h1 h2 => by rw [hsub, if_neg h2, if_neg h1, hS1 j hj]
   have hK2l : (K2.map Af).length = K2.length := List.length_map _
   cases bo with
   | false =>
    simp only [Option.some.injEq, Prod.mk.injEq] at hb
    obtain ⟨rfl, rfl⟩ := hb
    repeat' with_reducible first | refine W ?_ | refine Z0 ?_ | ((first | refine Wo fun K hK => ?_ | refine Wp ?_ | refine Wq ?_ | refine Wr ?_); (try simp only [go_sem, fN, seval, eT, iR, e0, e1, e2, e7, e9, e15, e16, e17, u21, u23, u7, u12, hlt, AD, dT, dF, nL]); (repeat refine Ai ?_); (try (refine hK _ ?_; clear hK K)); try refine iC ?_)
    refine AT (An false) (A0 (G := 1023) (KB := 1021) hS (by decide) (by decide)) trivial ?_ rfl fun j hj => ?_
    ·simp only [go_sem, fN, seval, eT, iR, AG, AH, AY]
    ·by_cases h1 : j = 1021
     ·subst h1
      rw [H2]
      simp only [go_sem, fN, seval, eT, iR, u21]
     ·by_cases h2 : j = 1023
      ·subst h2
       rw [Hj]
       simp only [go_sem, fN, seval, eT, iR, u23]
      ·have hj2 := uj j hj h2 h1
       rw [Ir h2 h1]
       simp only [go_sem, fN, seval, eT, iR, AU, hj, hj2]
   | true =>
    simp only at hb
    split at hb
    ·rename_i hiK
     simp only [Option.some.injEq, Prod.mk.injEq] at hb
     obtain ⟨rfl, rfl⟩ := hb
     have hc3 := FH v x.length (by omega)
     generalize Bn v x.length = z at *
     obtain ⟨k0, hk0⟩ := A1 hiK
     repeat' (first | (with_reducible first | refine W ?_ | refine Z0 ?_ | ((first | refine Wo fun K hK => ?_ | refine Wp ?_ | refine Wq ?_ | refine Wr ?_); (try simp only [go_sem, fN, seval, eT, iR, e0, e1, e2, e7, e9, e15, e16, e17, u21, u23, u7, u12, hlt, hK2l, hiK, hk0, AD, dT, dF, nL]); (repeat refine Ai ?_); (try (refine hK _ ?_; clear hK K)); try refine iC ?_)) | refine Cg _ (hc3) ?_)
     refine AT (An true) (A0 (G := 1023) (KB := 1021) hS (by decide) (by decide)) trivial ?_ rfl fun j hj => ?_
     ·simp only [go_sem, fN, seval, eT, iR, AG, AH, AY]
     ·by_cases h1 : j = 1021
      ·subst h1
       rw [H2]
       simp only [go_sem, fN, seval, eT, iR, Ad, List.map_set, AD]
      ·by_cases h2 : j = 1023
       ·subst h2
        rw [Hj, List.length_set]
        simp only [go_sem, fN, seval, eT, iR, u23]
       ·have hj2 := uj j hj h2 h1
        rw [Ir h2 h1]
        simp only [go_sem, fN, seval, eT, iR, AU, hj, h1, hj2]
    ·cases hb

theorem LP {T : AA} {Kn K' : List Lm} : upS (Bs T [(1023, Ag 1021 Kn.length, Ag 1021 K'.length), (1021, Ad Kn, Ad K')]) = BG (upS T) K' := by
 show upS (AN (AN T 1023 (some (Ag 1021 K'.length))) 1021 (some (Ad K'))) = _
 rw [Cp, Cp]
 rfl
theorem M7 {Kn K' : List Lm} {b : Bool} {m : Int} {x y : List Lm} (hm : J1 Kn m x y = some (K', b)) (T : AA) (hT : Dj T [(1023, Ag 1021 Kn.length, Ag 1021 K'.length), (1021, Ad Kn, Ad K')]) :
  Aj Tryd.prog 37 [.one (.ptr (up1 1023) 1 0 0), AQ m, BI x, BI y] (upS T) (An b) (upS (Bs T [(1023, Ag 1021 Kn.length, Ag 1021 K'.length), (1021, Ad Kn, Ad K')])) := by
 have t23 := hT (1023, Ag 1021 Kn.length, Ag 1021 K'.length) (by simp)
 have t21 := hT (1021, Ad Kn, Ad K') (by simp)
 simp only at t23 t21
 rw [LP]
 exact Ns (upS T) Kn K' b m x y hm (by show upS T (up1 1023) = _; rw [BS, t23]; rfl) (by show upS T (up1 1021) = _; rw [BS, t21]; rfl)
def N3 (f : Nat) : Prop := ∀ (S : AA) (Kn K' : List Lm) (a b : Lm) (r : Bool), Eb f Kn a b = some (K', r) → S 1023 = some (Ag 1021 Kn.length) → S 1021 = some (Ad Kn) →
 Aj Tryd.prog 18 [.one (.ptr 1023 1 0 0), aLm a, aLm b] S (An r) (CI S K')
theorem Nu (f : Nat) : N3 f := by
 induction f using Nat.strongRecOn with
 | _ f ih =>
 intro S Kn K' a0 b0 r hj sG sK
 cases f with
 | zero => simp [Eb] at hj
 | succ f =>
 unfold Eb at hj
 cases hua : Dy f Kn a0 with
 | none => rw [hua] at hj; simp at hj
 | some a =>
 cases hub : Dy f Kn b0 with
 | none => rw [hua, hub] at hj; simp at hj
 | some b =>
 rw [hua, hub] at hj
 simp only at hj
 split at hj
 ·cases hj
 rename_i hok
 simp only [not_or, Bool.not_eq_false] at hok
 obtain ⟨hoka, hokb⟩ := hok
 obtain ⟨hgda, hsza⟩ := CS hoka
 obtain ⟨hgdb, hszb⟩ := CS hokb
 have hwfa := GK hoka
 have hwfb := GK hokb
 have hspa := Em a hwfa hsza
 have hspb := Em b hwfb hszb
 have hPa := D4 (P := Lm.good 1000000000) (fun t a h ha => Lm.good_sub h ha) hgda
 have hPb := D4 (P := Lm.good 1000000000) (fun t a h ha => Lm.good_sub h ha) hgdb
 have hlb : (Av b).2.length ≤ 1000 := by
  have h : (Av b).1.size + (Av b).2.length ≤ b.size + ([] : List Lm).length := F1 b.size b []
  simp only [List.length_nil] at h
  omega
 have hoa := Me a hwfa hgda (by omega)
 have hob := Me b hwfb hgdb (by omega)
 have hself : CI S Kn = S := EP sG sK
 refine B8.acS fun hS C hC => ?_
 unfold BV
 have n4 := AZ hS (i := 4) (by omega)
 have n5 := AZ hS (i := 5) (by omega)
 have n7 := AZ hS (i := 7) (by omega)
 have n9 := AZ hS (i := 9) (by omega)
 have hK2l : (Kn.map Af).length = Kn.length := List.length_map _
 repeat' with_reducible first | refine W ?_ | refine Z0 ?_ | ((first | refine Wo fun K hK => ?_ | refine Wp ?_ | refine Wq ?_ | refine Wr ?_); (try simp only [go_sem, fN, seval, eT, iR, AS.startS, n4, n5, dT, dF, nL]); (repeat refine Ai ?_); (try (refine hK _ ?_; clear hK K)); try refine iC ?_)
 refine ⟨_, [(1023, Ag 1021 Kn.length), (1021, Ad Kn)], Ce (by simp only [go_sem, fN, seval, eT, iR, sG]) (by simp only [go_sem, fN, seval, eT, iR, sK]), fun T hT => HV T 1023 1021 Kn (hT (1023, Ag 1021 Kn.length) (by simp)) (hT (1021, Ad Kn) (by simp)) hua, ?_⟩
 repeat' with_reducible first | refine W ?_ | refine Z0 ?_ | ((first | refine Wo fun K hK => ?_ | refine Wp ?_ | refine Wq ?_ | refine Wr ?_); (try simp only [go_sem, fN, seval, eT, iR, AS.startS, n4, n5, dT, dF, nL]); (repeat refine Ai ?_); (try (refine hK _ ?_; clear hK K)); try refine iC ?_)
 refine ⟨_, [(1023, Ag 1021 Kn.length), (1021, Ad Kn)], Ce (by simp only [go_sem, fN, seval, eT, iR, sG]) (by simp only [go_sem, fN, seval, eT, iR, sK]), fun T hT => HV T 1023 1021 Kn (hT (1023, Ag 1021 Kn.length) (by simp)) (hT (1021, Ad Kn) (by simp)) hub, ?_⟩
 have hlow : ∀ j, 1000 ≤ j → S j = S j := fun _ _ => rfl
 by_cases hk2 : a.kind = 2 ∨ b.kind = 2
 ·rw [if_pos hk2] at hj
  have hc := ih f (by omega) S Kn K' (Dv a) (Dv b) r hj sG sK
  generalize Dv a = a1 at *
  generalize Dv b = b1 at *
  by_cases hka : a.kind = 2
  case' pos =>
   have hkT := eq_true hka
   repeat' (first | (with_reducible first | refine W ?_ | refine Z0 ?_ | ((first | refine Wo fun K hK => ?_ | refine Wp ?_ | refine Wq ?_ | refine Wr ?_); (try simp only [go_sem, fN, seval, eT, iR, n7, n9, hkT, AD, dT, dF, nL]); (repeat refine Ai ?_); (try (refine hK _ ?_; clear hK K)); try refine iC ?_)) | refine Cg _ (hoa) ?_ | refine Cg _ (hob) ?_)
  case' neg =>
   have hkT := eq_true (hk2.resolve_left hka)
   repeat' (first | (with_reducible first | refine W ?_ | refine Z0 ?_ | ((first | refine Wo fun K hK => ?_ | refine Wp ?_ | refine Wq ?_ | refine Wr ?_); (try simp only [go_sem, fN, seval, eT, iR, n7, n9, hka, hkT, AD, dT, dF, nL]); (repeat refine Ai ?_); (try (refine hK _ ?_; clear hK K)); try refine iC ?_)) | refine Cg _ (hoa) ?_ | refine Cg _ (hob) ?_)
  all_goals
   refine CC (vs := [.one (.ptr 1023 1 0 0), aLm a1, aLm b1]) (by simp [CY, outV, outC, stC, outCs]) rfl hS (fun j hj => by (simp only [go_sem, fN, seval, eT, iR, AU, hj])) hc ?_
   repeat' with_reducible first | refine W ?_ | refine Z0 ?_ | ((first | refine Wo fun K hK => ?_ | refine Wp ?_ | refine Wq ?_ | refine Wr ?_); (try simp only [go_sem, fN, seval, eT, iR, dT, dF, nL]); (repeat refine Ai ?_); (try (refine hK _ ?_; clear hK K)); try refine iC ?_)
   refine AT (An r) (A0 (G := 1023) (KB := 1021) hS (by decide) (by decide)) trivial ?_ rfl fun j hj => ?_
   ·simp only [go_sem, fN, seval, eT, iR, AG, AH, AY]
   ·show BD _ _ j = _
    rw [Ah hj]
 ·rw [if_neg hk2] at hj
  obtain ⟨hka, hkb⟩ := not_or.1 hk2
  generalize Av a = pa at *
  generalize Av b = pb at *
  obtain ⟨f1, xs⟩ := pa
  obtain ⟨g1, ys⟩ := pb
  simp only at hj hPa hPb hspa hspb hlb
  by_cases hf5 : f1.kind = 5
  ·have hf5T := eq_true hf5
   by_cases hg5 : g1.kind = 5
   ·have hg5T := eq_true hg5
    by_cases hix : f1.idx = g1.idx
    ·have hixT := eq_true hix
     rw [if_pos ⟨hf5, hg5, hix⟩] at hj
     have hc := M7 hj
     repeat' (first | (with_reducible first | refine W ?_ | refine Z0 ?_ | ((first | refine Wo fun K hK => ?_ | refine Wp ?_ | refine Wq ?_ | refine Wr ?_); (try simp only [go_sem, fN, seval, eT, iR, hka, hkb, n7, n9, hf5T, hg5T, hixT, AD, dT, dF, nL]); (repeat refine Ai ?_); (try (refine hK _ ?_; clear hK K)); try refine iC ?_)) | refine Cg _ (hspa) ?_ | refine Cg _ (hspb) ?_)
     refine ⟨_, _, (fun q hq => by
      simp only [List.mem_cons, List.not_mem_nil, or_false] at hq
      rcases hq with rfl | rfl
      ·exact sG
      ·exact sK), hc, ?_⟩
     repeat' with_reducible first | refine W ?_ | refine Z0 ?_ | ((first | refine Wo fun K hK => ?_ | refine Wp ?_ | refine Wq ?_ | refine Wr ?_); (try simp only [go_sem, fN, seval, eT, iR, dT, dF, nL]); (repeat refine Ai ?_); (try (refine hK _ ?_; clear hK K)); try refine iC ?_)
     refine AT (An r) (A0 (G := 1023) (KB := 1021) hS (by decide) (by decide)) trivial ?_ rfl fun j hj => ?_
     ·simp only [go_sem, fN, seval, eT, iR, AG, AH, AY]
     ·simp only [CI, Ci, Bs]
      by_cases h1 : j = 1021
      ·simp only [go_sem, fN, seval, eT, iR, h1]
      ·by_cases h2 : j = 1023
       ·simp only [go_sem, fN, seval, eT, iR, h2]
       ·simp only [go_sem, fN, seval, eT, iR, AU, hj, h1, h2]
    ·rw [if_neg (fun e => hix e.2.2), if_pos hf5] at hj
     have hc := Jk S Kn K' f f1.idx xs b r hj sG sK
     repeat' (first | (with_reducible first | refine W ?_ | refine Z0 ?_ | ((first | refine Wo fun K hK => ?_ | refine Wp ?_ | refine Wq ?_ | refine Wr ?_); (try simp only [go_sem, fN, seval, eT, iR, hka, hkb, n7, n9, hf5T, hg5T, hix, AD, dT, dF, nL]); (repeat refine Ai ?_); (try (refine hK _ ?_; clear hK K)); try refine iC ?_)) | refine Cg _ (hspa) ?_ | refine Cg _ (hspb) ?_)
     refine CC (vs := [.one (.ptr 1023 1 0 0), AQ f1.idx, BI xs, aLm b]) (by simp [CY, outV, outC, stC, outCs]) rfl hS (fun j hj => by (simp only [go_sem, fN, seval, eT, iR, AU, hj])) hc ?_
     repeat' with_reducible first | refine W ?_ | refine Z0 ?_ | ((first | refine Wo fun K hK => ?_ | refine Wp ?_ | refine Wq ?_ | refine Wr ?_); (try simp only [go_sem, fN, seval, eT, iR, dT, dF, nL]); (repeat refine Ai ?_); (try (refine hK _ ?_; clear hK K)); try refine iC ?_)
     refine AT (An r) (A0 (G := 1023) (KB := 1021) hS (by decide) (by decide)) trivial ?_ rfl fun j hj => ?_
     ·simp only [go_sem, fN, seval, eT, iR, AG, AH, AY]
     ·show BD _ _ j = _
      rw [Ah hj]
   ·rw [if_neg (fun e => hg5 e.2.1), if_pos hf5] at hj
    have hc := Jk S Kn K' f f1.idx xs b r hj sG sK
    repeat' (first | (with_reducible first | refine W ?_ | refine Z0 ?_ | ((first | refine Wo fun K hK => ?_ | refine Wp ?_ | refine Wq ?_ | refine Wr ?_); (try simp only [go_sem, fN, seval, eT, iR, hka, hkb, n7, n9, hf5T, hg5, AD, dT, dF, nL]); (repeat refine Ai ?_); (try (refine hK _ ?_; clear hK K)); try refine iC ?_)) | refine Cg _ (hspa) ?_ | refine Cg _ (hspb) ?_)
    refine CC (vs := [.one (.ptr 1023 1 0 0), AQ f1.idx, BI xs, aLm b]) (by simp [CY, outV, outC, stC, outCs]) rfl hS (fun j hj => by (simp only [go_sem, fN, seval, eT, iR, AU, hj])) hc ?_
    repeat' with_reducible first | refine W ?_ | refine Z0 ?_ | ((first | refine Wo fun K hK => ?_ | refine Wp ?_ | refine Wq ?_ | refine Wr ?_); (try simp only [go_sem, fN, seval, eT, iR, dT, dF, nL]); (repeat refine Ai ?_); (try (refine hK _ ?_; clear hK K)); try refine iC ?_)
    refine AT (An r) (A0 (G := 1023) (KB := 1021) hS (by decide) (by decide)) trivial ?_ rfl fun j hj => ?_
    ·simp only [go_sem, fN, seval, eT, iR, AG, AH, AY]
    ·show BD _ _ j = _
     rw [Ah hj]
  ·rw [if_neg (fun e => hf5 e.1), if_neg hf5] at hj
   by_cases hg5 : g1.kind = 5
   ·have hg5T := eq_true hg5
    rw [if_pos hg5] at hj
    have hc := Jk S Kn K' f g1.idx ys a r hj sG sK
    repeat' (first | (with_reducible first | refine W ?_ | refine Z0 ?_ | ((first | refine Wo fun K hK => ?_ | refine Wp ?_ | refine Wq ?_ | refine Wr ?_); (try simp only [go_sem, fN, seval, eT, iR, hka, hkb, n7, n9, hf5, hg5T, AD, dT, dF, nL]); (repeat refine Ai ?_); (try (refine hK _ ?_; clear hK K)); try refine iC ?_)) | refine Cg _ (hspa) ?_ | refine Cg _ (hspb) ?_)
    refine CC (vs := [.one (.ptr 1023 1 0 0), AQ g1.idx, BI ys, aLm a]) (by simp [CY, outV, outC, stC, outCs]) rfl hS (fun j hj => by (simp only [go_sem, fN, seval, eT, iR, AU, hj])) hc ?_
    repeat' with_reducible first | refine W ?_ | refine Z0 ?_ | ((first | refine Wo fun K hK => ?_ | refine Wp ?_ | refine Wq ?_ | refine Wr ?_); (try simp only [go_sem, fN, seval, eT, iR, dT, dF, nL]); (repeat refine Ai ?_); (try (refine hK _ ?_; clear hK K)); try refine iC ?_)
    refine AT (An r) (A0 (G := 1023) (KB := 1021) hS (by decide) (by decide)) trivial ?_ rfl fun j hj => ?_
    ·simp only [go_sem, fN, seval, eT, iR, AG, AH, AY]
    ·show BD _ _ j = _
     rw [Ah hj]
   ·rw [if_neg hg5] at hj
    by_cases hkk : f1.kind = g1.kind
    ·have hkkT := eq_true hkk
     by_cases hix : f1.idx = g1.idx
     ·have hixT := eq_true hix
      by_cases hll : xs.length = ys.length
      ·have hllT : ((xs.length : Nat) : Int) = ys.length := by omega
       rw [if_neg (fun e => e ⟨hkk, hix, hll⟩)] at hj
       repeat' (first | (with_reducible first | refine W ?_ | refine Z0 ?_ | ((first | refine Wo fun K hK => ?_ | refine Wp ?_ | refine Wq ?_ | refine Wr ?_); (try simp only [go_sem, fN, seval, eT, iR, hka, hkb, n7, n9, hf5, hg5, hkkT, hixT, hllT, AD, dT, dF, nL]); (repeat refine Ai ?_); (try (refine hK _ ?_; clear hK K)); try refine iC ?_)) | refine Cg _ (hspa) ?_ | refine Cg _ (hspb) ?_)
       refine IWP.atT (fun e s => e 0 = .one (.ptr 1023 1 0 0) ∧ e 8 = BI xs ∧ e 10 = BI ys ∧ e 104 = AQ ys.length ∧ e 105 = AQ 0 ∧ ∀ j, 1000 ≤ j → s j = S j) ⟨rfl, rfl, rfl, rfl, rfl, fun j hj => by (simp only [go_sem, fN, seval, eT, iR, AU, hj])⟩ ?_
       rintro env0 S0 ⟨e0, e8, e10, e104, e105, sj⟩
       refine IWP.loop (fun q s => ∃ (k g : Nat) (Kk : List Lm), k ≤ ys.length ∧ q = ys.length - k ∧ g ≤ f ∧ Gf g Kk (xs.drop k) (ys.drop k) = some (K', r) ∧ s.env 0 = .one (.ptr 1023 1 0 0) ∧ s.env 8 = BI xs ∧ s.env 10 = BI ys ∧ s.env 104 = AQ ys.length ∧ s.env 105 = AQ k ∧ ∀ j, 1000 ≤ j → s.S j = CI S Kk j) ys.length
        ⟨0, f, Kn, Nat.zero_le _, rfl, Nat.le_refl _, hj, e0, e8, e10, e104, e105, by rw [hself]; exact sj⟩ ?_
       clear hj e0 e8 e10 e104 e105 sj
       rintro q ⟨env, S1⟩ ⟨k, g, Kk, hk, rfl, hgf, hj, e0, e8, e10, e104, e105, sj⟩
       simp only at e0 e8 e10 e104 e105 sj
       have hcl : A7 (CI S Kk) := A0 (G := 1023) (KB := 1021) hS (by decide) (by decide)
       cases g with
       | zero => simp [Gf] at hj
       | succ g =>
       by_cases hlt : (k : Int) < ys.length
       ·obtain ⟨y, hy⟩ := A1 (show k < ys.length by omega)
        obtain ⟨x, hx⟩ := A1 (show k < xs.length by omega)
        have hdx : xs.drop k = x :: xs.drop (k + 1) := by
         obtain ⟨hlk, hak⟩ := List.getElem?_eq_some_iff.1 hx
         rw [List.drop_eq_getElem_cons hlk, hak]
        have hdy : ys.drop k = y :: ys.drop (k + 1) := by
         obtain ⟨hlk, hak⟩ := List.getElem?_eq_some_iff.1 hy
         rw [List.drop_eq_getElem_cons hlk, hak]
        rw [hdx, hdy] at hj
        unfold Gf at hj
        cases hjp : Eb g Kk x y with
        | none => rw [hjp] at hj; cases hj
        | some p =>
         obtain ⟨K2, bo⟩ := p
         rw [hjp] at hj
         have hc := ih g (by omega) (CI S Kk) Kk K2 x y bo hjp Hj H2
         rw [show CI (CI S Kk) K2 = CI S K2 from Fg (by decide)] at hc
         have hcl2 : A7 (CI S K2) := A0 (G := 1023) (KB := 1021) hS (by decide) (by decide)
         repeat' with_reducible first | refine W ?_ | refine Z0 ?_ | ((first | refine Wo fun K hK => ?_ | refine Wp ?_ | refine Wq ?_ | refine Wr ?_); (try simp only [go_sem, fN, seval, eT, iR, e0, e8, e10, e104, e105, hlt, hx, hy, AD, dT, dF, nL]); (repeat refine Ai ?_); (try (refine hK _ ?_; clear hK K)); try refine iC ?_)
         refine CC (vs := [.one (.ptr 1023 1 0 0), aLm x, aLm y]) (by simp [CY, outV, outC, stC, outCs]) rfl hcl sj hc ?_
         have uj : ∀ j, 1000 ≤ j → BD S1 (CI S K2) j = CI S K2 j := fun j hj => Ah hj
         generalize BD S1 (CI S K2) = S2 at uj ⊢
         cases bo with
         | false =>
          simp only [Option.some.injEq, Prod.mk.injEq] at hj
          obtain ⟨rfl, rfl⟩ := hj
          repeat' with_reducible first | refine W ?_ | refine Z0 ?_ | ((first | refine Wo fun K hK => ?_ | refine Wp ?_ | refine Wq ?_ | refine Wr ?_); (try simp only [go_sem, fN, seval, eT, iR, e0, e8, e10, e104, e105, hlt, hx, hy, AD, dT, dF, nL]); (repeat refine Ai ?_); (try (refine hK _ ?_; clear hK K)); try refine iC ?_)
          refine AT (An false) hcl2 trivial ?_ rfl uj
          simp only [go_sem, fN, seval, eT, iR, AG, AH, AY]
         | true =>
          simp only at hj
          repeat' with_reducible first | refine W ?_ | refine Z0 ?_ | ((first | refine Wo fun K hK => ?_ | refine Wp ?_ | refine Wq ?_ | refine Wr ?_); (try simp only [go_sem, fN, seval, eT, iR, e0, e8, e10, e104, e105, hlt, hx, hy, AD, dT, dF, nL]); (repeat refine Ai ?_); (try (refine hK _ ?_; clear hK K)); try refine iC ?_)
          exact AO ⟨ys.length - (k + 1), by omega, k + 1, g, K2, by omega, rfl, by omega, hj, e0, e8, e10, e104, rfl, uj⟩
       ·have hke : k = ys.length := by omega
        rw [hke, List.drop_length] at hj
        have hr : some (Kk, true) = some (K', r) := by
         cases hd : xs.drop ys.length <;> (rw [hd] at hj; exact hj)
        cases hr
        repeat' with_reducible first | refine W ?_ | refine Z0 ?_ | ((first | refine Wo fun K hK => ?_ | refine Wp ?_ | refine Wq ?_ | refine Wr ?_); (try simp only [go_sem, fN, seval, eT, iR, e0, e8, e10, e104, e105, hlt, dT, dF, nL]); (repeat refine Ai ?_); (try (refine hK _ ?_; clear hK K)); try refine iC ?_)
        refine AT (An true) hcl trivial ?_ rfl sj
        simp only [go_sem, fN, seval, eT, iR, AG, AH, AY]
      ·have hllT : ¬ ((xs.length : Nat) : Int) = ys.length := by omega
       rw [if_pos (fun e => hll e.2.2)] at hj
       simp only [Option.some.injEq, Prod.mk.injEq] at hj
       obtain ⟨rfl, rfl⟩ := hj
       repeat' (first | (with_reducible first | refine W ?_ | refine Z0 ?_ | ((first | refine Wo fun K hK => ?_ | refine Wp ?_ | refine Wq ?_ | refine Wr ?_); (try simp only [go_sem, fN, seval, eT, iR, hka, hkb, n7, n9, hf5, hg5, hkkT, hixT, hllT, AD, dT, dF, nL]); (repeat refine Ai ?_); (try (refine hK _ ?_; clear hK K)); try refine iC ?_)) | refine Cg _ (hspa) ?_ | refine Cg _ (hspb) ?_)
       rw [hself]
       refine AT (An false) hS trivial ?_ rfl fun j hj => ?_
       ·simp only [go_sem, fN, seval, eT, iR, AG, AH, AY]
       ·simp only [go_sem, fN, seval, eT, iR, AU, hj]
     ·rw [if_pos (fun e => hix e.2.1)] at hj
      simp only [Option.some.injEq, Prod.mk.injEq] at hj
      obtain ⟨rfl, rfl⟩ := hj
      repeat' (first | (with_reducible first | refine W ?_ | refine Z0 ?_ | ((first | refine Wo fun K hK => ?_ | refine Wp ?_ | refine Wq ?_ | refine Wr ?_); (try simp only [go_sem, fN, seval, eT, iR, hka, hkb, n7, n9, hf5, hg5, hkkT, hix, AD, dT, dF, nL]); (repeat refine Ai ?_); (try (refine hK _ ?_; clear hK K)); try refine iC ?_)) | refine Cg _ (hspa) ?_ | refine Cg _ (hspb) ?_)
      rw [hself]
      refine AT (An false) hS trivial ?_ rfl fun j hj => ?_
      ·simp only [go_sem, fN, seval, eT, iR, AG, AH, AY]
      ·simp only [go_sem, fN, seval, eT, iR, AU, hj]
    ·rw [if_pos (fun e => hkk e.1)] at hj
     simp only [Option.some.injEq, Prod.mk.injEq] at hj
     obtain ⟨rfl, rfl⟩ := hj
     repeat' (first | (with_reducible first | refine W ?_ | refine Z0 ?_ | ((first | refine Wo fun K hK => ?_ | refine Wp ?_ | refine Wq ?_ | refine Wr ?_); (try simp only [go_sem, fN, seval, eT, iR, hka, hkb, n7, n9, hf5, hg5, hkk, AD, dT, dF, nL]); (repeat refine Ai ?_); (try (refine hK _ ?_; clear hK K)); try refine iC ?_)) | refine Cg _ (hspa) ?_ | refine Cg _ (hspb) ?_)
     rw [hself]
     refine AT (An false) hS trivial ?_ rfl fun j hj => ?_
     ·simp only [go_sem, fN, seval, eT, iR, AG, AH, AY]
     ·simp only [go_sem, fN, seval, eT, iR, AU, hj]

theorem Ff : ∀ {f : Nat} {Kn ts l : List Lm}, CZ f Kn ts = some l → l.length = ts.length
 | 0, _, _, _, h => by simp [CZ] at h
 | f + 1, Kn, [], l, h => by simp [CZ] at h; subst h; rfl
 | f + 1, Kn, t :: ts, l, h => by
  unfold CZ at h
  split at h
  ·rename_i x l' h1 h2
   cases h
   simp [Ff h2]
  ·cases h
theorem FR : ∀ {f : Nat} {Kn ts l : List Lm} {k : Nat} {a : Lm}, CZ f Kn ts = some l → ts[k]? = some a → ∃ g x, g < f ∧ Dm g Kn a = some x ∧ l[k]? = some x
 | 0, _, _, _, _, _, h, _ => by simp [CZ] at h
 | f + 1, Kn, [], l, k, a, h, ha => by simp at ha
 | f + 1, Kn, t :: ts, l, k, a, h, ha => by
  unfold CZ at h
  split at h
  ·rename_i x l' h1 h2
   cases h
   cases k with
   | zero =>
    simp only [List.getElem?_cons_zero, Option.some.injEq] at ha
    subst ha
    exact ⟨f, x, by omega, h1, rfl⟩
   | succ k =>
    rw [List.getElem?_cons_succ] at ha
    obtain ⟨g, y, hg, h3, h4⟩ := FR h2 ha
    exact ⟨g, y, by omega, h3, by rw [List.getElem?_cons_succ]; exact h4⟩
  ·cases h
theorem H0 : ∀ {f : Nat} {Kn : List Lm} {t u : Lm}, Dy f Kn t = some u → okL u = true
 | 0, _, _, _, h => by simp [Dy] at h
 | f + 1, Kn, t, u, h => by
  unfold Dy at h
  split at h
  ·cases h
  rename_i hok
  have hok : okL t = true := by simpa using hok
  split at h
  ·split at h
   ·cases h
   ·split at h
    ·cases h; exact hok
    ·exact H0 h
  ·split at h
   ·split at h
    ·cases h; exact hok
    ·split at h
     ·split at h
      ·exact H0 h
      ·cases h
     ·cases h
   ·cases h; exact hok
def Na (f : Nat) : Prop := ∀ (S : AA) (G KB : Nat) (hG : 1000 ≤ G) (hKB : 1000 ≤ KB) (Kn : List Lm) (t u : Lm), Dm f Kn t = some u → S G = some (Ag KB Kn.length) → S KB = some (Ad Kn) →
  Aj Tryd.prog 21 [.one (.ptr G 1 0 0), aLm t] S (aLm u) S
theorem NR (f : Nat) : Na f := by
 induction f using Nat.strongRecOn with
 | _ f ih =>
 intro S G KB hG hKB Kn t0 u hu sG sK
 cases f with
 | zero => simp [Dm] at hu
 | succ f =>
 unfold Dm at hu
 cases hut : Dy f Kn t0 with
 | none => rw [hut] at hu; cases hu
 | some t =>
 rw [hut] at hu
 simp only [Option.map_eq_some_iff] at hu
 obtain ⟨l, hl, rfl⟩ := hu
 have hll := Ff hl
 obtain ⟨hgd, hsz⟩ := CS (H0 hut)
 have hlen := Lm.length_le t.subs
 have hse := Lm.size_eq t
 refine B1.acS fun hS C hC => ?_
 unfold BP
 have n3 := AZ hS (i := 3) (by omega)
 have n4 := AZ hS (i := 4) (by omega)
 have n5 := AZ hS (i := 5) (by omega)
 have n7 := AZ hS (i := 7) (by omega)
 have n70 := AZ hS (i := 70) (by omega)
 have hrow : ∀ q ∈ [(G, Ag KB Kn.length), (KB, Ad Kn)], S q.1 = some q.2 := Ce sG sK
 repeat' with_reducible first | refine W ?_ | refine Z0 ?_ | ((first | refine Wo fun K hK => ?_ | refine Wp ?_ | refine Wq ?_ | refine Wr ?_); (try simp only [go_sem, fN, seval, eT, iR, AS.startS, n3, n4, AU, hG, dT, dF, nL]); (repeat refine Ai ?_); (try (refine hK _ ?_; clear hK K)); try refine iC ?_)
 refine ⟨_, [(G, Ag KB Kn.length), (KB, Ad Kn)], Ce (by simp only [go_sem, fN, seval, eT, iR, AU, hG, sG]) (by simp only [go_sem, fN, seval, eT, iR, AU, hKB, sK]), fun T hT => HV T G KB Kn (hT (G, Ag KB Kn.length) (by simp)) (hT (KB, Ad Kn) (by simp)) hut, ?_⟩
 repeat' with_reducible first | refine W ?_ | refine Z0 ?_ | ((first | refine Wo fun K hK => ?_ | refine Wp ?_ | refine Wq ?_ | refine Wr ?_); (try simp only [go_sem, fN, seval, eT, iR, n5, dT, dF, nL]); (repeat refine Ai ?_); (try (refine hK _ ?_; clear hK K)); try refine iC ?_)
 refine IWP.ghost (Ar.ownC 5 2 70 24 3 (xs := ([] : List Lm).map Af) rfl rfl (by simp only [go_sem, fN, seval, eT, iR, n70]) C_) ?_
 refine IWP.loopD [7] (fun q s => ∃ k, k ≤ t.subs.length ∧ q = t.subs.length - k ∧ s.env 0 = .one (.ptr G 1 0 0) ∧ s.env 4 = .one (.ptr 4 1 0 0) ∧ s.env 5 = .one (.ptr 5 1 0 0) ∧ s.env 17 = BI t.subs ∧ s.env 18 = AQ t.subs.length ∧ s.env 19 = AQ k ∧ s.S 4 = some GZ
   ∧ s.S 5 = some (.box 24 [.st (.int .i64 t.kind), .st (.int .i64 t.idx), .row 70 k]) ∧ s.S 70 = some (.arow 24 3 ((l.take k).map Af)) ∧ s.S 7 = none ∧ ∀ j, 1000 ≤ j → s.S j = S j) t.subs.length
  ⟨0, Nat.zero_le _, rfl, rfl, rfl, rfl, rfl, rfl, rfl, by simp only [go_sem, fN, seval, eT, iR], rfl, by simp only [go_sem, fN, seval, eT, iR], by simp only [go_sem, fN, seval, eT, iR, n7], fun j hj => by simp only [go_sem, fN, seval, eT, iR, AU, hj]⟩ ?_
 rintro q ⟨env, S1⟩ ⟨k, hk, rfl, e0, e4, e5, e17, e18, e19, s4, s5, s70, s7, sj⟩
 simp only at e0 e4 e5 e17 e18 e19 s4 s5 s70 s7 sj
 have hlk : ((l.take k).map Af).length = k := by rw [List.length_map, List.length_take]; omega
 by_cases hlt : (k : Int) < t.subs.length
 ·obtain ⟨a, ha⟩ := A1 (show k < t.subs.length by omega)
  obtain ⟨g, y, hg, hy, hly⟩ := FR hl ha
  have hsn : (l.take (k + 1)).map Af = (l.take k).map Af ++ [Af y] := by rw [A9 hly]; simp
  have t23 := (sj G hG).trans sG
  have t21 := (sj KB hKB).trans sK
  repeat' with_reducible first | refine W ?_ | refine Z0 ?_ | ((first | refine Wo fun K hK => ?_ | refine Wp ?_ | refine Wq ?_ | refine Wr ?_); (try simp only [go_sem, fN, seval, eT, iR, e0, e4, e5, e17, e18, e19, s4, s5, s70, s7, hlt, ha, AD, dT, dF, nL]); (repeat refine Ai ?_); (try (refine hK _ ?_; clear hK K)); try refine iC ?_)
  refine ⟨_, [(G, Ag KB Kn.length), (KB, Ad Kn)], Ce (by simp only [go_sem, fN, seval, eT, iR, AU, hG, t23]) (by simp only [go_sem, fN, seval, eT, iR, AU, hKB, t21]), fun T hT => ih g (by omega) (upS T) (up1 G) (up1 KB) (BR _) (BR _) Kn a y hy (by rw [BS, hT (G, Ag KB Kn.length) (by simp)]; rfl) (by rw [BS, hT (KB, Ad Kn) (by simp)]; rfl), ?_⟩
  repeat' with_reducible first | refine W ?_ | refine Z0 ?_ | ((first | refine Wo fun K hK => ?_ | refine Wp ?_ | refine Wq ?_ | refine Wr ?_); (try simp only [go_sem, fN, seval, eT, iR, e0, e4, e5, e17, e18, e19, s4, s5, s70, s7, hlt, ha, hlk, AD, dT, dF, nL]); (repeat refine Ai ?_); (try (refine hK _ ?_; clear hK K)); try refine iC ?_)
  refine AO ⟨t.subs.length - (k + 1), by omega, k + 1, by omega, rfl, ?_, ?_, ?_, ?_, ?_, rfl, ?_, ?_, ?_, rfl, fun j hj => CL hS (by decide) hj ?_⟩
  ·simp only [go_sem, fN, seval, AS.drop, AJ, AC.clears, AC.clear, AC.highs, AC.high, Bool.not_false, Bool.true_and, Bool.and_self, AV.purge, AV.purges, AC.purge, AF.purge, List.contains_cons, List.contains_nil, Nat.reduceBEq, Bool.or_self, Bool.or_false, Bool.false_or, Bool.or_true, eT, iR, e0, FA, hG]
  ·simp only [go_sem, fN, seval, AS.drop, AJ, AC.clears, AC.clear, AC.highs, AC.high, Bool.not_false, Bool.true_and, Bool.and_self, AV.purge, AV.purges, AC.purge, AF.purge, List.contains_cons, List.contains_nil, Nat.reduceBEq, Bool.or_self, Bool.or_false, Bool.false_or, Bool.or_true, eT, iR, e4]
  ·simp only [go_sem, fN, seval, AS.drop, AJ, AC.clears, AC.clear, AC.highs, AC.high, Bool.not_false, Bool.true_and, Bool.and_self, AV.purge, AV.purges, AC.purge, AF.purge, List.contains_cons, List.contains_nil, Nat.reduceBEq, Bool.or_self, Bool.or_false, Bool.false_or, Bool.or_true, eT, iR, e5]
  ·simp only [go_sem, fN, seval, AS.drop, AJ, AC.clears, AC.clear, AC.highs, AC.high, Bool.not_false, Bool.true_and, Bool.and_self, AV.purge, AV.purges, AC.purge, AF.purge, List.contains_cons, List.contains_nil, Nat.reduceBEq, Bool.or_self, Bool.or_false, Bool.false_or, Bool.or_true, eT, iR, e17]
  ·simp only [go_sem, fN, seval, AS.drop, AJ, AC.clears, AC.clear, AC.highs, AC.high, Bool.not_false, Bool.true_and, Bool.and_self, AV.purge, AV.purges, AC.purge, AF.purge, List.contains_cons, List.contains_nil, Nat.reduceBEq, Bool.or_self, Bool.or_false, Bool.false_or, Bool.or_true, eT, iR, e18]
  ·simp only [go_sem, fN, seval, AS.drop, AJ, AC.clears, AC.clear, AC.highs, AC.high, Bool.not_false, Bool.true_and, Bool.and_self, AV.purge, AV.purges, AC.purge, AF.purge, List.contains_cons, List.contains_nil, Nat.reduceBEq, Bool.or_self, Bool.or_false, Bool.false_or, Bool.or_true, eT, iR, s4]
  ·simp only [go_sem, fN, seval, AS.drop, AJ, AC.clears, AC.clear, AC.highs, AC.high, Bool.not_false, Bool.true_and, Bool.and_self, AV.purge, AV.purges, AC.purge, AF.purge, List.contains_cons, List.contains_nil, Nat.reduceBEq, Bool.or_self, Bool.or_false, Bool.false_or, Bool.or_true, eT, iR]
  ·rw [hsn]
   simp only [go_sem, fN, seval, AS.drop, AJ, AC.clears, AC.clear, AC.highs, AC.high, Bool.not_false, Bool.true_and, Bool.and_self, AV.purge, AV.purges, AC.purge, AF.purge, List.contains_cons, List.contains_nil, Nat.reduceBEq, Bool.or_self, Bool.or_false, Bool.false_or, Bool.or_true, eT, iR, AD]
  ·have hj2 := sj j hj
   simp only [go_sem, fN, seval, eT, iR, AU, hj, hj2]
 ·have hke : k = t.subs.length := by omega
  rw [List.take_of_length_le (by omega)] at s70 hlk
  rw [hke] at s5
  repeat' with_reducible first | refine W ?_ | refine Z0 ?_ | ((first | refine Wo fun K hK => ?_ | refine Wp ?_ | refine Wq ?_ | refine Wr ?_); (try simp only [go_sem, fN, seval, eT, iR, e0, e4, e5, e17, e18, e19, s4, s5, s70, s7, hlt, AD, dT, dF, nL]); (repeat refine Ai ?_); (try (refine hK _ ?_; clear hK K)); try refine iC ?_)
  refine AT (.agg [.st (.int .i64 t.kind), .st (.int .i64 t.idx), .row 70 t.subs.length]) hS trivial ?_ ?_ fun j hj => ?_
  ·simp only [go_sem, fN, seval, eT, iR, AG, AH, AY, e4]
  ·simp only [go_sem, fN, seval, eT, iR, s70, hlk, hke]
   rfl
  ·have hj2 := sj j hj
   simp only [go_sem, fN, seval, eT, iR, AU, hj, hj2]
def nmE (t : Lm) (es : List (Int × Int)) : List (Int × Int) := if t.kind = 5 then Gs es t.idx else es
def nmI (t : Lm) (es : List (Int × Int)) : Int := if t.kind = 5 then (Dh (Gs es t.idx) t.idx).getD 0 else t.idx
theorem MB (t : Lm) (es : List (Int × Int)) : nmP t es = (.mk t.kind (nmI t es) (CF t.subs (nmE t es)).1, (CF t.subs (nmE t es)).2) := by
 cases t with
 | mk k i xs =>
  unfold nmP nmI nmE
  simp only [Lm.kind_mk, Lm.idx_mk, Lm.subs_mk]
  by_cases h : k = 5 <;> simp [h]
theorem Gz : ∀ (xs : List Lm) (a : Lm) (es : List (Int × Int)), CF (xs ++ [a]) es = ((CF xs es).1 ++ [(nmP a (CF xs es).2).1], (nmP a (CF xs es).2).2)
 | [], a, es => by simp [CF]
 | x :: xs, a, es => by
  rw [List.cons_append, CF, Gz xs a, CF]
  rfl
theorem HG : ∀ (xs : List Lm) (es : List (Int × Int)), (CF xs es).1.length = xs.length
 | [], es => by simp [CF]
 | x :: xs, es => by rw [CF]; simp [HG xs]
theorem J7 (t : Lm) (es : List (Int × Int)) : (nmE t es).length ≤ es.length + 1 := by
 unfold nmE Gs
 have := IH es t.idx es.length
 split
 ·split <;> omega
 ·omega
mutual
theorem KU : ∀ (t : Lm) (es : List (Int × Int)), (nmP t es).2.length ≤ es.length + t.size
 | .mk k i xs, es => by
  rw [MB]
  have h1 := J7 (.mk k i xs) es
  have h2 := Gj xs (nmE (.mk k i xs) es)
  have h3 := Lm.size_eq (.mk k i xs)
  rw [Lm.subs_mk] at h3 ⊢
  simp only
  omega
theorem Gj : ∀ (xs : List Lm) (es : List (Int × Int)), (CF xs es).2.length ≤ es.length + Lm.sizes xs
 | [], es => by simp [CF]
 | x :: xs, es => by
  rw [CF, Lm.sizes]
  have h1 := KU x es
  have h2 := Gj xs (nmP x es).2
  simp only
  omega
end
theorem F9 : ∀ (es : List (Int × Int)) (k v : Int), Dh (D3 es k v) k = some v
 | [], k, v => by simp [D3, Dh]
 | p :: es, k, v => by
  unfold D3
  split
  ·rename_i h; rw [Dh, if_pos h]
  ·rename_i h; rw [Dh, if_neg h]; exact F9 es k v
theorem M0 (t : Lm) (hz : t.size ≤ 100000) : ∀ (M : Nat) (es : List (Int × Int)) (S : AA), 1000 ≤ M → es.length + t.size ≤ 900000 → S M = some (BW es) →
  Aj Tryd.prog 19 [aLm t, .one (.mptr M)] S (aLm (nmP t es).1) (AN S M (some (BW (nmP t es).2))) := by
 induction h : SizeOf.sizeOf t using Nat.strongRecOn generalizing t with
 | _ N ih =>
 subst h
 intro M es S hM hl sM
 have hs := Lm.size_eq t
 have hlen := Lm.length_le t.subs
 refine FI.acS fun hS C hC => ?_
 unfold DD
 have n2 := AZ hS (i := 2) (by omega)
 have n4 := AZ hS (i := 4) (by omega)
 have n5 := AZ hS (i := 5) (by omega)
 have n9 := AZ hS (i := 9) (by omega)
 have n70 := AZ hS (i := 70) (by omega)
 rw [MB]
 have hE := J7 t es
 have hml : (es.map fun p => ((.i p.1 : KV), AQ p.2)).length = es.length := List.length_map _
 by_cases hk5 : t.kind = 5
 case' pos =>
  have hk5T := eq_true hk5
  have hg := DG es t.idx
  have hp := EE es t.idx es.length
  cases hgk : Dh es t.idx
  case' some k =>
   rw [hgk] at hg
   have hEe : nmE t es = es := by unfold nmE Gs; rw [if_pos hk5, hgk]; rfl
   have hIi : nmI t es = k := by unfold nmI Gs; rw [if_pos hk5, hgk]; simp [hgk]
   repeat' with_reducible first | refine W ?_ | refine Z0 ?_ | ((first | refine Wo fun K hK => ?_ | refine Wp ?_ | refine Wq ?_ | refine Wr ?_); (try simp only [go_sem, fN, seval, eT, iR, AS.startS, n2, n4, n5, sM, hM, AU, BZ, hk5T, hg, Ej, Bq, DW, KV.of, KV.of1, dT, dF, nL]); (repeat refine Ai ?_); (try (refine hK _ ?_; clear hK K)); try refine iC ?_)
   refine IWP.atT (fun e s => e 1 = .one (.mptr M) ∧ e 4 = .one (.ptr 4 1 0 0) ∧ e 5 = .one (.ptr 5 1 0 0) ∧ e 38 = BI t.subs ∧ e 39 = AQ t.subs.length ∧ e 40 = AQ 0 ∧ s 4 = some GZ ∧ s 5 = some (.box 24 [.st (.int .i64 t.kind), .st (.int .i64 (nmI t es)), .full []]) ∧ s M = some (BW (nmE t es)) ∧ s 9 = none ∧ s 70 = none ∧ ∀ j, 1000 ≤ j → j ≠ M → s j = S j)
    ⟨rfl, rfl, rfl, rfl, rfl, rfl, by (simp only [go_sem, fN, seval, eT, iR, BZ, hM]), by (rw [hIi]; (simp only [go_sem, fN, seval, eT, iR, BZ, hM])), by (rw [hEe]; (simp only [go_sem, fN, seval, eT, iR, BZ, AU, hM, sM])), by (simp only [go_sem, fN, seval, eT, iR, BZ, hM, n9]), by (simp only [go_sem, fN, seval, eT, iR, BZ, hM, n70]), fun j hj hjM => by (simp only [go_sem, fN, seval, eT, iR, AU, hj, hjM])⟩ ?_
  case' none =>
   rw [hgk] at hg
   have hEe : nmE t es = D3 es t.idx es.length := by unfold nmE Gs; rw [if_pos hk5, hgk]; rfl
   have hIi : nmI t es = es.length := by unfold nmI Gs; rw [if_pos hk5, hgk]; simp [F9]
   have hg2 := DG (D3 es t.idx es.length) t.idx
   rw [F9] at hg2
   repeat' with_reducible first | refine W ?_ | refine Z0 ?_ | ((first | refine Wo fun K hK => ?_ | refine Wp ?_ | refine Wq ?_ | refine Wr ?_); (try simp only [go_sem, fN, seval, eT, iR, AS.startS, n2, n4, n5, sM, hM, AU, BZ, hk5T, hg, hg2, hp, hml, Ej, Bq, DW, KV.of, KV.of1, dT, dF, nL]); (repeat refine Ai ?_); (try (refine hK _ ?_; clear hK K)); try refine iC ?_)
   refine IWP.atT (fun e s => e 1 = .one (.mptr M) ∧ e 4 = .one (.ptr 4 1 0 0) ∧ e 5 = .one (.ptr 5 1 0 0) ∧ e 38 = BI t.subs ∧ e 39 = AQ t.subs.length ∧ e 40 = AQ 0 ∧ s 4 = some GZ ∧ s 5 = some (.box 24 [.st (.int .i64 t.kind), .st (.int .i64 (nmI t es)), .full []]) ∧ s M = some (BW (nmE t es)) ∧ s 9 = none ∧ s 70 = none ∧ ∀ j, 1000 ≤ j → j ≠ M → s j = S j)
    ⟨rfl, rfl, rfl, rfl, rfl, rfl, by (simp only [go_sem, fN, seval, eT, iR, BZ, hM]), by (rw [hIi]; (simp only [go_sem, fN, seval, eT, iR, BZ, hM])), by (rw [hEe]; (simp only [go_sem, fN, seval, eT, iR, BZ, AU, hM, sM])), by (simp only [go_sem, fN, seval, eT, iR, BZ, hM, n9]), by (simp only [go_sem, fN, seval, eT, iR, BZ, hM, n70]), fun j hj hjM => by (simp only [go_sem, fN, seval, eT, iR, AU, hj, hjM])⟩ ?_
 case' neg =>
  have hEe : nmE t es = es := by unfold nmE; rw [if_neg hk5]
  have hIi : nmI t es = t.idx := by unfold nmI; rw [if_neg hk5]
  repeat' with_reducible first | refine W ?_ | refine Z0 ?_ | ((first | refine Wo fun K hK => ?_ | refine Wp ?_ | refine Wq ?_ | refine Wr ?_); (try simp only [go_sem, fN, seval, eT, iR, AS.startS, n2, n4, n5, sM, hM, AU, BZ, hk5, dT, dF, nL]); (repeat refine Ai ?_); (try (refine hK _ ?_; clear hK K)); try refine iC ?_)
  refine IWP.atT (fun e s => e 1 = .one (.mptr M) ∧ e 4 = .one (.ptr 4 1 0 0) ∧ e 5 = .one (.ptr 5 1 0 0) ∧ e 38 = BI t.subs ∧ e 39 = AQ t.subs.length ∧ e 40 = AQ 0 ∧ s 4 = some GZ ∧ s 5 = some (.box 24 [.st (.int .i64 t.kind), .st (.int .i64 (nmI t es)), .full []]) ∧ s M = some (BW (nmE t es)) ∧ s 9 = none ∧ s 70 = none ∧ ∀ j, 1000 ≤ j → j ≠ M → s j = S j)
   ⟨rfl, rfl, rfl, rfl, rfl, rfl, by (simp only [go_sem, fN, seval, eT, iR, BZ, hM]), by (rw [hIi]; (simp only [go_sem, fN, seval, eT, iR, BZ, hM])), by (rw [hEe]; (simp only [go_sem, fN, seval, eT, iR, BZ, AU, hM, sM])), by (simp only [go_sem, fN, seval, eT, iR, BZ, hM, n9]), by (simp only [go_sem, fN, seval, eT, iR, BZ, hM, n70]), fun j hj hjM => by (simp only [go_sem, fN, seval, eT, iR, AU, hj, hjM])⟩ ?_
 all_goals
  rintro env0 S0 ⟨e1, e4, e5, e38, e39, e40, s4, s5, sMM, s9, s70, sj⟩
  refine IWP.ghost (Ar.ownC 5 2 70 24 3 (xs := ([] : List Lm).map Af) s5 rfl s70 C_) ?_
  refine IWP.loopD [9] (fun q s => ∃ k, k ≤ t.subs.length ∧ q = t.subs.length - k ∧ s.env 1 = .one (.mptr M) ∧ s.env 4 = .one (.ptr 4 1 0 0) ∧ s.env 5 = .one (.ptr 5 1 0 0) ∧ s.env 38 = BI t.subs ∧ s.env 39 = AQ t.subs.length ∧ s.env 40 = AQ k ∧ s.S 4 = some GZ
    ∧ s.S 5 = some (.box 24 [.st (.int .i64 t.kind), .st (.int .i64 (nmI t es)), .row 70 k]) ∧ s.S 70 = some (.arow 24 3 ((CF (t.subs.take k) (nmE t es)).1.map Af)) ∧ s.S 9 = none ∧ s.S M = some (BW (CF (t.subs.take k) (nmE t es)).2) ∧ ∀ j, 1000 ≤ j → j ≠ M → s.S j = S j) t.subs.length
   ⟨0, Nat.zero_le _, rfl, e1, e4, e5, e38, e39, e40, by (simp only [go_sem, fN, seval, eT, iR, s4]), by (simp only [go_sem, fN, seval, eT, iR]; rfl), by (simp only [go_sem, fN, seval, eT, iR, CF]), by (simp only [go_sem, fN, seval, eT, iR, s9]), by (simp only [go_sem, fN, seval, eT, iR, AU, hM, sMM, CF]), fun j hj hjM => by (have hj2 := sj j hj hjM; (simp only [go_sem, fN, seval, eT, iR, AU, hj, hj2]))⟩ ?_
  clear e1 e4 e5 e38 e39 e40 s4 s5 sMM s9 s70 sj
  rintro q ⟨env, S1⟩ ⟨k, hk, rfl, e1, e4, e5, e38, e39, e40, s4, s5, s70, s9, sMM, sj⟩
  simp only at e1 e4 e5 e38 e39 e40 s4 s5 s70 s9 sMM sj
  have hlk : ((CF (t.subs.take k) (nmE t es)).1.map Af).length = k := by rw [List.length_map, HG, List.length_take]; omega
  by_cases hlt : (k : Int) < t.subs.length
  ·obtain ⟨a, ha⟩ := A1 (show k < t.subs.length by omega)
   have hz1 := Lm.sizes_take ha
   have hz2 := Lm.sizes_take_le t.subs (k + 1)
   have hml2 := Gj (t.subs.take k) (nmE t es)
   have hsn := Gz (t.subs.take k) a (nmE t es)
   rw [← A9 ha] at hsn
   generalize hsn' : CF (t.subs.take (k + 1)) (nmE t es) = X' at *
   generalize CF (t.subs.take k) (nmE t es) = X at *
   obtain ⟨L, E⟩ := X
   simp only at hml2 hlk s70 sMM hsn
   subst hsn
   repeat' with_reducible first | refine W ?_ | refine Z0 ?_ | ((first | refine Wo fun K hK => ?_ | refine Wp ?_ | refine Wq ?_ | refine Wr ?_); (try simp only [go_sem, fN, seval, eT, iR, e1, e4, e5, e38, e39, e40, s4, s5, s70, s9, sMM, hlt, ha, AD, dT, dF, nL]); (repeat refine Ai ?_); (try (refine hK _ ?_; clear hK K)); try refine iC ?_)
   refine ⟨_, _, ih _ (Lm.lt_of_sub (Ac ha)) a (by omega) rfl (up1 M) E _ (BR M) (by omega) (by rw [BS]; (simp only [go_sem, fN, seval, eT, iR, AU, hM, sMM])), ?_⟩
   generalize nmP a E = Y at *
   obtain ⟨y, E2⟩ := Y
   repeat' with_reducible first | refine W ?_ | refine Z0 ?_ | ((first | refine Wo fun K hK => ?_ | refine Wp ?_ | refine Wq ?_ | refine Wr ?_); (try simp only [go_sem, fN, seval, eT, iR, e1, e4, e5, e38, e39, e40, s4, s5, s70, s9, sMM, hlt, ha, hlk, hM, AU, BZ, AD, dT, dF, nL]); (repeat refine Ai ?_); (try (refine hK _ ?_; clear hK K)); try refine iC ?_)
   refine AO ⟨t.subs.length - (k + 1), by omega, k + 1, by omega, rfl, ?_, ?_, ?_, ?_, ?_, rfl, ?_, ?_, ?_, ?_, ?_, fun j hj hjM => CL hS (by decide) hj ?_⟩
   ·simp only [go_sem, fN, seval, AS.drop, AJ, AC.clears, AC.clear, AC.highs, AC.high, Bool.not_false, Bool.true_and, Bool.and_self, AV.purge, AV.purges, AC.purge, AF.purge, List.contains_cons, List.contains_nil, Nat.reduceBEq, Bool.or_self, Bool.or_false, Bool.false_or, Bool.or_true, eT, iR, e1, FA, hM]
   ·simp only [go_sem, fN, seval, AS.drop, AJ, AC.clears, AC.clear, AC.highs, AC.high, Bool.not_false, Bool.true_and, Bool.and_self, AV.purge, AV.purges, AC.purge, AF.purge, List.contains_cons, List.contains_nil, Nat.reduceBEq, Bool.or_self, Bool.or_false, Bool.false_or, Bool.or_true, eT, iR, e4]
   ·simp only [go_sem, fN, seval, AS.drop, AJ, AC.clears, AC.clear, AC.highs, AC.high, Bool.not_false, Bool.true_and, Bool.and_self, AV.purge, AV.purges, AC.purge, AF.purge, List.contains_cons, List.contains_nil, Nat.reduceBEq, Bool.or_self, Bool.or_false, Bool.false_or, Bool.or_true, eT, iR, e5]
   ·simp only [go_sem, fN, seval, AS.drop, AJ, AC.clears, AC.clear, AC.highs, AC.high, Bool.not_false, Bool.true_and, Bool.and_self, AV.purge, AV.purges, AC.purge, AF.purge, List.contains_cons, List.contains_nil, Nat.reduceBEq, Bool.or_self, Bool.or_false, Bool.false_or, Bool.or_true, eT, iR, e38]
   ·simp only [go_sem, fN, seval, AS.drop, AJ, AC.clears, AC.clear, AC.highs, AC.high, Bool.not_false, Bool.true_and, Bool.and_self, AV.purge, AV.purges, AC.purge, AF.purge, List.contains_cons, List.contains_nil, Nat.reduceBEq, Bool.or_self, Bool.or_false, Bool.false_or, Bool.or_true, eT, iR, e39]
   ·simp only [go_sem, fN, seval, AS.drop, AJ, AC.clears, AC.clear, AC.highs, AC.high, Bool.not_false, Bool.true_and, Bool.and_self, AV.purge, AV.purges, AC.purge, AF.purge, List.contains_cons, List.contains_nil, Nat.reduceBEq, Bool.or_self, Bool.or_false, Bool.false_or, Bool.or_true, eT, iR, BZ, hM, s4]
   ·simp only [go_sem, fN, seval, AS.drop, AJ, AC.clears, AC.clear, AC.highs, AC.high, Bool.not_false, Bool.true_and, Bool.and_self, AV.purge, AV.purges, AC.purge, AF.purge, List.contains_cons, List.contains_nil, Nat.reduceBEq, Bool.or_self, Bool.or_false, Bool.false_or, Bool.or_true, eT, iR]
   ·rw [hsn', List.map_append]
    simp only [go_sem, fN, seval, AS.drop, AJ, AC.clears, AC.clear, AC.highs, AC.high, Bool.not_false, Bool.true_and, Bool.and_self, AV.purge, AV.purges, AC.purge, AF.purge, List.contains_cons, List.contains_nil, Nat.reduceBEq, Bool.or_self, Bool.or_false, Bool.false_or, Bool.or_true, eT, iR, AD]
   ·rfl
   ·rw [hsn']
    simp only [go_sem, fN, seval, AS.drop, AJ, AC.clears, AC.clear, AC.highs, AC.high, Bool.not_false, Bool.true_and, Bool.and_self, AV.purge, AV.purges, AC.purge, AF.purge, List.contains_cons, List.contains_nil, Nat.reduceBEq, Bool.or_self, Bool.or_false, Bool.false_or, Bool.or_true, eT, iR, AU, FA, hM]
   ·have hj2 := sj j hj hjM
    simp only [go_sem, fN, seval, eT, iR, AU, hj, hjM, hj2]
  ·have hke : k = t.subs.length := by omega
   rw [hke, List.take_length] at s70 sMM hlk
   rw [hke] at s5
   repeat' with_reducible first | refine W ?_ | refine Z0 ?_ | ((first | refine Wo fun K hK => ?_ | refine Wp ?_ | refine Wq ?_ | refine Wr ?_); (try simp only [go_sem, fN, seval, eT, iR, e1, e4, e5, e38, e39, e40, s4, s5, s70, s9, hlt, AD, dT, dF, nL]); (repeat refine Ai ?_); (try (refine hK _ ?_; clear hK K)); try refine iC ?_)
   refine AT (.agg [.st (.int .i64 t.kind), .st (.int .i64 (nmI t es)), .row 70 t.subs.length]) (Bg hS hM rfl) trivial ?_ ?_ fun j hj => ?_
   ·simp only [go_sem, fN, seval, eT, iR, AG, AH, AY, e4]
   ·simp only [go_sem, fN, seval, eT, iR, s70, hlk]
    rfl
   ·by_cases hjM : j = M
    ·subst hjM
     rw [AE]
     simp only [go_sem, fN, seval, eT, iR, AU, hM, sMM]
    ·have hj2 := sj j hj hjM
     rw [AR _ hjM]
     simp only [go_sem, fN, seval, eT, iR, AU, hj, hj2]

theorem Ar.freeze {C : Ctx} {s : AS} (id : Nat) (ts : List Nat) {ty : TypeId} {xs : List SV} (hS : s.S id = some (.box ty (xs.map .st))) (hl : 0 < xs.length) (ht : ∀ t ∈ ts, s.env t = .one (.ptr id 1 0 0)) :
  Ar C s ⟨fun t => if t ∈ ts then .one (.eptr xs) else s.env t, AN s.S id (some (.dead 1 0))⟩ := fun a w ⟨σ, ι, R⟩ => by
 have hb := R.blk _ _ hS
 cases hb with
 | @box _ _ g vs h1 h2 h3 h4 h5 =>
  have hkeep := D8 (σ := σ) (w' := w) (g := g) (k := xs.length) (fun p x e hx => by rw [h5 _ e] at hx; cases hx)
  obtain ⟨hu, R'⟩ := R.turn (w' := w) hS (.dead 1 0) (ι id) (σ' := Cj σ w g xs.length) hkeep (fun p hp _ => Dp (fun e => hp (by rw [e]; exact h1))) (DB R.fit) (Nat.le_refl _) (fun _ => ⟨rfl, rfl⟩) ⟨rfl, rfl, rfl⟩ (Nat.le_refl _) (fun _ _ _ => rfl) (fun g h => .inl h)
   (fun hu => .dead fun g' hg' => by rw [h1] at hg'; cases hg'; exact ⟨_, h3, rfl⟩)
  refine ⟨_, _, R'.size, fun i hi => ?_, R'.nod, R'.fit, R'.blk, R'.inj, R'.base, R'.ext, R'.old, R'.os, R'.grown, R'.same, R'.upd⟩
  show AM _ _ _ _ (if i ∈ ts then .one (.eptr xs) else s.env i)
  split
  ·rename_i hm
   have re := R.env i hi
   rw [ht i hm] at re
   obtain ⟨b, q1, q2, q3⟩ := C6 (AP re)
   rw [hS] at q1
   cases q1
   obtain ⟨g', e1, e2⟩ := q3 rfl
   rw [h1] at e1
   cases e1
   rw [e2]
   have cell : ∀ j x, xs[j]? = some x → ∃ v, vs[j]? = some v ∧ At σ v x := fun j x hx => by
    obtain ⟨v, v1, v2⟩ := h4.get (j := j) (b := .st x) (by rw [List.getElem?_map, hx]; rfl)
    exact ⟨v, by simpa using v1, Bd v2⟩
   refine .one (.eptr (fun j => (vs[j]?).getD undef) (fun j x hx => ?_) (fun j x hx => ?_) (fun _ _ => ?_))
   ·obtain ⟨v, v1, v2⟩ := cell j x hx
    have hj := (List.getElem?_eq_some_iff.1 hx).1
    rw [show (0 * (AF.box ty (xs.map AC.st)).wid + 0 + j) = j by omega, Hg hj, cell_of_row w g _ _ _ _ h3, v1]
    rfl
   ·obtain ⟨v, v1, v2⟩ := cell j x hx
    rw [v1]
    exact v2.mono hkeep
   ·rw [FG hl, ED h3]
  ·exact R'.env i hi

theorem I8 {xs : List Lm} {p : Lm → Bool} {k : Nat} {a : Lm} (ha : xs[k]? = some a) (h : (xs.take k).any p = false) (hp : p a = true) : xs.findIdx? p = some k := by
 obtain ⟨hk, he⟩ := List.getElem?_eq_some_iff.1 ha
 rw [List.findIdx?_eq_some_iff_getElem]
 refine ⟨hk, by rw [he]; exact hp, fun j hj => ?_⟩
 rw [List.any_eq_false] at h
 have := h (xs[j]'(by omega)) (by
  rw [List.mem_take_iff_getElem]
  exact ⟨j, by omega, rfl⟩)
 simpa using this
abbrev GI (x : Lm) : AC := .fn 53 [.eptr (Af x)]
theorem M2 (y x : Lm) : Ak Tryd.prog 53 [aLm y, .one (.eptr (Af x))] (An (x.same y)) := by
 refine Ex.ac fun C hC => ?_
 unfold Ck
 repeat' (first | (with_reducible first | refine W ?_ | refine Z0 ?_ | ((first | refine Wo fun K hK => ?_ | refine Wp ?_ | refine Wq ?_ | refine Wr ?_); (try simp only [go_sem, fN, seval, eT, iR, AD, dT, dF, nL]); (repeat refine Ai ?_); (try (refine hK _ ?_; clear hK K)); try refine iC ?_)) | refine Cg _ (NA x y) ?_)
 simp only [go_sem, fN, seval, Ap, AS.result, AG, AH, AY]
theorem H7 (l : List Lm) (x : Lm) : Ak Tryd.prog 69 [BI l, .one (GI x)] (AQ (match l.findIdx? (fun y => x.same y) with | some i => (i : Int) | none => -1)) := by
 refine BF.ac fun C hC => ?_
 unfold Ao
 refine IWP.learn 0 (by omega) fun hkn => ?_
 have hln := Cb hkn
 have hll : (l.map Af).length = l.length := List.length_map _
 repeat' with_reducible first | refine W ?_ | refine Z0 ?_ | ((first | refine Wo fun K hK => ?_ | refine Wp ?_ | refine Wq ?_ | refine Wr ?_); (try simp only [go_sem, fN, seval, eT, iR, dT, dF, nL]); (repeat refine Ai ?_); (try (refine hK _ ?_; clear hK K)); try refine iC ?_)
 refine IWP.loop (fun n s => ∃ k, k ≤ l.length ∧ n = l.length - k ∧ (l.take k).any (fun y => x.same y) = false ∧ s.env 0 = BI l ∧ s.env 1 = .one (GI x) ∧ s.env 7 = AQ l.length ∧ s.env 8 = AQ k) l.length ⟨0, Nat.zero_le _, rfl, rfl, rfl, rfl, rfl, rfl⟩ ?_
 rintro n ⟨env, S⟩ ⟨k, hk, rfl, hp, e0, e1, e7, e8⟩
 simp only at e0 e1 e7 e8
 by_cases hlt : (k : Int) < l.length
 ·obtain ⟨y, hy⟩ := A1 (show k < l.length by omega)
  have hfc := M2 y x
  simp only [AD] at hfc
  by_cases hr : x.same y = true
  ·have hi := I8 (p := fun y => x.same y) hy hp hr
   rw [hi]
   repeat' with_reducible first | refine W ?_ | refine Z0 ?_ | ((first | refine Wo fun K hK => ?_ | refine Wp ?_ | refine Wq ?_ | refine Wr ?_); (try simp only [go_sem, fN, seval, eT, iR, e0, e1, e7, e8, hlt, hy, hll, AD, dT, dF, nL]); (repeat refine Ai ?_); (try (refine hK _ ?_; clear hK K)); try refine iC ?_)
   refine ⟨by kernel_rfl, _, _, Ak.toS hfc rfl, ?_⟩
   repeat' with_reducible first | refine W ?_ | refine Z0 ?_ | ((first | refine Wo fun K hK => ?_ | refine Wp ?_ | refine Wq ?_ | refine Wr ?_); (try simp only [go_sem, fN, seval, eT, iR, e0, e1, e7, e8, hr, dT, dF, nL]); (repeat refine Ai ?_); (try (refine hK _ ?_; clear hK K)); try refine iC ?_)
   simp only [go_sem, fN, seval, Ap, AS.result, AG, AH, AY]
  ·have hr' : x.same y = false := by simpa using hr
   repeat' with_reducible first | refine W ?_ | refine Z0 ?_ | ((first | refine Wo fun K hK => ?_ | refine Wp ?_ | refine Wq ?_ | refine Wr ?_); (try simp only [go_sem, fN, seval, eT, iR, e0, e1, e7, e8, hlt, hy, hll, AD, dT, dF, nL]); (repeat refine Ai ?_); (try (refine hK _ ?_; clear hK K)); try refine iC ?_)
   refine ⟨by kernel_rfl, _, _, Ak.toS hfc rfl, ?_⟩
   repeat' with_reducible first | refine W ?_ | refine Z0 ?_ | ((first | refine Wo fun K hK => ?_ | refine Wp ?_ | refine Wq ?_ | refine Wr ?_); (try simp only [go_sem, fN, seval, eT, iR, e0, e1, e7, e8, hr', dT, dF, nL]); (repeat refine Ai ?_); (try (refine hK _ ?_; clear hK K)); try refine iC ?_)
   refine AO ⟨l.length - (k + 1), by omega, k + 1, by omega, rfl, ?_, e0, e1, e7, rfl⟩
   rw [A9 hy, List.any_append, hp]
   simpa using hr'
 ·rw [List.take_of_length_le (by omega)] at hp
  have hi : l.findIdx? (fun y => x.same y) = none := by
   rw [List.findIdx?_eq_none_iff]
   intro y hy
   rw [List.any_eq_false] at hp
   simpa using hp y hy
  rw [hi]
  repeat' with_reducible first | refine W ?_ | refine Z0 ?_ | ((first | refine Wo fun K hK => ?_ | refine Wp ?_ | refine Wq ?_ | refine Wr ?_); (try simp only [go_sem, fN, seval, eT, iR, e0, e1, e7, e8, hlt, dT, dF, nL]); (repeat refine Ai ?_); (try (refine hK _ ?_; clear hK K)); try refine iC ?_)
  simp only [go_sem, fN, seval, Ap, AS.result, AG, AH, AY]
theorem Ge (l : List Lm) (x : Lm) : Ak Tryd.prog 52 [BI l, .one (GI x)] (An (l.any fun y => x.same y)) := by
 refine BA.ac fun C hC => ?_
 unfold Am
 have hc := H7 l x
 simp only [GI, AD] at hc
 cases hf : l.findIdx? (fun y => x.same y) with
 | none =>
  rw [hf] at hc
  have ha : (l.any fun y => x.same y) = false := by
   rw [List.findIdx?_eq_none_iff] at hf
   rw [List.any_eq_false]
   intro y hy
   simpa using hf y hy
  rw [ha]
  repeat' (first | (with_reducible first | refine W ?_ | refine Z0 ?_ | ((first | refine Wo fun K hK => ?_ | refine Wp ?_ | refine Wq ?_ | refine Wr ?_); (try simp only [go_sem, fN, seval, eT, iR, List.all_cons, List.all_nil, AC.stay, Bool.and_self, dT, dF, nL]); (repeat refine Ai ?_); (try (refine hK _ ?_; clear hK K)); try refine iC ?_)) | refine Cg _ (hc) ?_)
  simp only [go_sem, fN, seval, Ap, AS.result, AG, AH, AY]
 | some i =>
  rw [hf] at hc
  have ha : (l.any fun y => x.same y) = true := by
   rw [List.findIdx?_eq_some_iff_getElem] at hf
   obtain ⟨hk, hp, _⟩ := hf
   rw [List.any_eq_true]
   exact ⟨_, List.getElem_mem hk, hp⟩
  have h0 : (0 : Int) ≤ (i : Int) := by omega
  rw [ha]
  repeat' (first | (with_reducible first | refine W ?_ | refine Z0 ?_ | ((first | refine Wo fun K hK => ?_ | refine Wp ?_ | refine Wq ?_ | refine Wr ?_); (try simp only [go_sem, fN, seval, eT, iR, List.all_cons, List.all_nil, AC.stay, Bool.and_self, h0, dT, dF, nL]); (repeat refine Ai ?_); (try (refine hK _ ?_; clear hK K)); try refine iC ?_)) | refine Cg _ (hc) ?_)
  simp only [go_sem, fN, seval, Ap, AS.result, AG, AH, AY]
theorem Lj (l : List Lm) (hl : l.length ≤ 1000000) : Fu Tryd.prog 51 [BI l] 24 3 (l.map Af) := by
 unfold Fu
 rw [List.length_map]
 refine BL.acS fun hS C hC => ?_
 unfold As
 have hb : l.length * 40 ≤ 140737488355328 := by omega
 by_cases h0 : l.length = 0
 ·have h1 : l = [] := by simpa using h0
  subst h1
  repeat' with_reducible first | refine W ?_ | refine Z0 ?_ | ((first | refine Wo fun K hK => ?_ | refine Wp ?_ | refine Wq ?_ | refine Wr ?_); (try simp only [go_sem, fN, seval, eT, iR, dT, dF, nL]); (repeat refine Ai ?_); (try (refine hK _ ?_; clear hK K)); try refine iC ?_)
  refine ⟨?_, ?_⟩
  ·repeat' with_reducible first | refine W ?_ | refine Z0 ?_ | ((first | refine Wo fun K hK => ?_ | refine Wp ?_ | refine Wq ?_ | refine Wr ?_); (try simp only [go_sem, fN, seval, eT, iR, dT, dF, nL]); (repeat refine Ai ?_); (try (refine hK _ ?_; clear hK K)); try refine iC ?_)
   refine JR (Ar.own 2 7 24 3 (xs := ([] : List (List SV))) rfl rfl (by simp) (by omega)) ?_
   exact Ni (mu := false) trivial 7 (by decide) rfl (fun i hi => by show AN _ _ _ _ = _; rw [AR _ (by omega)]; rfl) rfl
  ·repeat' with_reducible first | refine W ?_ | refine Z0 ?_ | ((first | refine Wo fun K hK => ?_ | refine Wp ?_ | refine Wq ?_ | refine Wr ?_); (try simp only [go_sem, fN, seval, eT, iR, dT, dF, nL]); (repeat refine Ai ?_); (try (refine hK _ ?_; clear hK K)); try refine iC ?_)
   exact Ni (mu := false) trivial 7 (by decide) rfl (fun i hi => by show AN _ _ _ _ = _; rw [AR _ (by omega)]; rfl) rfl
 ·repeat' with_reducible first | refine W ?_ | refine Z0 ?_ | ((first | refine Wo fun K hK => ?_ | refine Wp ?_ | refine Wq ?_ | refine Wr ?_); (try simp only [go_sem, fN, seval, eT, iR, h0, hb, dT, dF, nL]); (repeat refine Ai ?_); (try (refine hK _ ?_; clear hK K)); try refine iC ?_)
  exact Ni (mu := false) trivial 7 (by decide) rfl (fun i hi => by show AN _ _ _ _ = _; rw [AR _ (by omega)]; rfl) rfl

theorem Nx : ∀ (f : Nat) (t : Lm) (w : List Lm) (m : List (Int × Int)) (M : Nat) (S : AA), t.wf → t.size ≤ f → t.size + w.length ≤ 1000 → 1000 ≤ M → S M = some (BW m) →
  Aj Tryd.prog 33 [aLm t, BI w, .one (.mptr M)] S (An (Da f t w m).1) (AN S M (some (BW (Da f t w m).2))) := by
 intro f
 induction f with
 | zero => intro t w m M S hw hf; have := Lm.size_pos t; omega
 | succ f ih =>
 intro t w m M S hw hf hz hM sM
 have hself : AN S M (some (BW m)) = S := Hx sM
 have hwl : (w.map Af).length = w.length := List.length_map _
 obtain ⟨hwf1, hwf2⟩ := (Lm.wf_eq t).1 hw
 refine Fk.acS fun hS C hC => ?_
 unfold DY
 have n3 := AZ hS (i := 3) (by omega)
 have n8 := AZ hS (i := 8) (by omega)
 have n40 := AZ hS (i := 40) (by omega)
 have hMl : ∀ i, i < 1000 → (M = i) = False := fun i hi => AU hM hi
 unfold Da
 by_cases hk2 : t.kind = 2
 ·have hn : CH t.kind = 1 := by unfold CH; rw [if_pos hk2]
  rw [hn] at hwf1
  match hs : t.subs, hwf1.2.2 with
  | [b], _ =>
   have hbz := Lm.size_sub (t := t) (a := b) (by rw [hs]; simp)
   have hbw := Lm.wf_sub hw (a := b) (by rw [hs]; simp)
   rw [if_pos hk2]
   simp only [List.headD_cons]
   by_cases h0 : w.length = 0
   ·rw [if_pos h0]
    have h0' : ((w.length : Nat) : Int) = 0 := by omega
    have hc := ih b [] m M S hbw (by omega) (by simp only [List.length_nil]; omega) hM sM
    generalize Da f b [] m = r at *
    obtain ⟨r1, m1⟩ := r
    repeat' with_reducible first | refine W ?_ | refine Z0 ?_ | ((first | refine Wo fun K hK => ?_ | refine Wp ?_ | refine Wq ?_ | refine Wr ?_); (try simp only [go_sem, fN, seval, eT, iR, AS.startS, n3, hk2, hs, h0', AD, dT, dF, nL]); (repeat refine Ai ?_); (try (refine hK _ ?_; clear hK K)); try refine iC ?_)
    refine CC (vs := [aLm b, BI [], .one (.mptr M)]) (by simp [CY, outV, outC, stC, outCs, AD]) (by simp [AV.highs, AV.high, AC.highs, AC.high, hM]) hS (fun j hj => by (simp only [go_sem, fN, seval, eT, iR, AU, hj])) hc ?_
    repeat' with_reducible first | refine W ?_ | refine Z0 ?_ | ((first | refine Wo fun K hK => ?_ | refine Wp ?_ | refine Wq ?_ | refine Wr ?_); (try simp only [go_sem, fN, seval, eT, iR, dT, dF, nL]); (repeat refine Ai ?_); (try (refine hK _ ?_; clear hK K)); try refine iC ?_)
    refine AT (An r1) (Bg hS hM rfl) trivial ?_ rfl fun j hj => ?_
    ·simp only [go_sem, fN, seval, eT, iR, AG, AH, AY]
    ·show BD _ _ j = _
     rw [Ah hj]
   ·rw [if_neg h0]
    have h0' : ¬ ((w.length : Nat) : Int) = 0 := by omega
    rw [hself]
    repeat' with_reducible first | refine W ?_ | refine Z0 ?_ | ((first | refine Wo fun K hK => ?_ | refine Wp ?_ | refine Wq ?_ | refine Wr ?_); (try simp only [go_sem, fN, seval, eT, iR, AS.startS, n3, hk2, hs, h0', AD, dT, dF, nL]); (repeat refine Ai ?_); (try (refine hK _ ?_; clear hK K)); try refine iC ?_)
    refine AT (An false) hS trivial ?_ rfl fun j hj => ?_
    ·simp only [go_sem, fN, seval, eT, iR, AG, AH, AY]
    ·simp only [go_sem, fN, seval, eT, iR, AU, hj]
  | [], h => simp at h
  | _ :: _ :: _, h => simp at h; omega
 ·rw [if_neg hk2]
  by_cases hk3 : t.kind = 3
  ·have hn : CH t.kind = 2 := by unfold CH; rw [if_neg hk2, if_pos hk3]
   rw [hn] at hwf1
   match hs : t.subs, hwf1.2.2 with
   | [a, b], _ =>
    have haz := Lm.size_sub (t := t) (a := a) (by rw [hs]; simp)
    have hbz := Lm.size_sub (t := t) (a := b) (by rw [hs]; simp)
    have hpa := Lm.size_pos a
    have hpb := Lm.size_pos b
    have hse := Lm.size_eq t
    rw [hs] at hse
    simp only [Lm.sizes] at hse
    have haw := Lm.wf_sub hw (a := a) (by rw [hs]; simp)
    have hbw := Lm.wf_sub hw (a := b) (by rw [hs]; simp)
    rw [if_pos hk3]
    simp only [List.headD_cons, List.getD_cons_succ, List.getD_cons_zero]
    have hc := ih b [] m M S hbw (by omega) (by simp only [List.length_nil]; omega) hM sM
    generalize Da f b [] m = r at *
    obtain ⟨r1, m1⟩ := r
    simp only at hc ⊢
    generalize hR : (if r1 = true then Da f a (w ++ [b]) m1 else (false, m1)) = R at *
    obtain ⟨b', m'⟩ := R
    simp only
    repeat' with_reducible first | refine W ?_ | refine Z0 ?_ | ((first | refine Wo fun K hK => ?_ | refine Wp ?_ | refine Wq ?_ | refine Wr ?_); (try simp only [go_sem, fN, seval, eT, iR, AS.startS, n3, hk2, hk3, hs, AD, dT, dF, nL]); (repeat refine Ai ?_); (try (refine hK _ ?_; clear hK K)); try refine iC ?_)
    refine CC (vs := [aLm b, BI [], .one (.mptr M)]) (by simp [CY, outV, outC, stC, outCs, AD]) (by simp [AV.highs, AV.high, AC.highs, AC.high, hM]) hS (fun j hj => by (simp only [go_sem, fN, seval, eT, iR, AU, hj])) hc ?_
    generalize hS2 : BD _ (AN S M (some (BW m1))) = S2
    have u3 : S2 3 = some (Bp t) := by rw [← hS2, Aw (by decide)]; (simp only [go_sem, fN, seval, eT, iR, Bp, hk3, hs, AD])
    have u40 : S2 40 = none := by rw [← hS2, Aw (by decide)]; (simp only [go_sem, fN, seval, eT, iR, n40])
    have uM : S2 M = some (BW m1) := by rw [← hS2, Ah hM, AE]
    have uj : ∀ j, 1000 ≤ j → S2 j = AN S M (some (BW m1)) j := fun j hj => by rw [← hS2, Ah hj]
    clear hS2
    cases r1 with
    | false =>
     simp only [Bool.false_eq_true, if_false, Prod.mk.injEq] at hR
     obtain ⟨rfl, rfl⟩ := hR
     repeat' with_reducible first | refine W ?_ | refine Z0 ?_ | ((first | refine Wo fun K hK => ?_ | refine Wp ?_ | refine Wq ?_ | refine Wr ?_); (try simp only [go_sem, fN, seval, eT, iR, u3, hk3, hs, AD, dT, dF, nL]); (repeat refine Ai ?_); (try (refine hK _ ?_; clear hK K)); try refine iC ?_)
     refine AT (An false) (Bg hS hM rfl) trivial ?_ rfl fun j hj => ?_
     ·simp only [go_sem, fN, seval, eT, iR, AG, AH, AY]
     ·have hj2 := uj j hj
      simp only [go_sem, fN, seval, eT, iR, AU, hj, hj2]
    | true =>
     simp only [if_true] at hR
     have hc2 := ih a (w ++ [b]) m1 M (AN S M (some (BW m1))) haw (by omega) (by rw [List.length_append, List.length_singleton]; omega) hM (AE _ _ _)
     rw [hR] at hc2
     have hun : AN (AN S M (some (BW m1))) M (some (BW m')) = AN S M (some (BW m')) := by
      funext j
      unfold AN
      split <;> rfl
     simp only at hc2
     rw [hun] at hc2
     repeat' with_reducible first | refine W ?_ | refine Z0 ?_ | ((first | refine Wo fun K hK => ?_ | refine Wp ?_ | refine Wq ?_ | refine Wr ?_); (try simp only [go_sem, fN, seval, eT, iR, u3, u40, hk3, hs, AD, dT, dF, nL]); (repeat refine Ai ?_); (try (refine hK _ ?_; clear hK K)); try refine iC ?_)
     refine ⟨false, _, _, _, Lj w (by omega), by (simp only [go_sem, fN, seval, eT, iR, u40]), fun k hk => by
      simp only [List.mem_cons, List.not_mem_nil, or_false] at hk
      rcases hk with rfl | rfl <;> rfl, ?_⟩
     repeat' with_reducible first | refine W ?_ | refine Z0 ?_ | ((first | refine Wo fun K hK => ?_ | refine Wp ?_ | refine Wq ?_ | refine Wr ?_); (try simp only [go_sem, fN, seval, eT, iR, u3, u40, hk3, hs, hwl, E5, AD, dT, dF, nL]); (repeat refine Ai ?_); (try (refine hK _ ?_; clear hK K)); try refine iC ?_)
     refine CC (vs := [aLm a, BI (w ++ [b]), .one (.mptr M)]) (by simp [CY, outV, outC, stC, outCs, AD, AN]) (by simp [AV.highs, AV.high, AC.highs, AC.high, hM]) (Bg hS hM rfl) (fun j hj => by (have hj2 := uj j hj; (simp only [go_sem, fN, seval, eT, iR, AU, hj, hj2]))) hc2 ?_
     repeat' with_reducible first | refine W ?_ | refine Z0 ?_ | ((first | refine Wo fun K hK => ?_ | refine Wp ?_ | refine Wq ?_ | refine Wr ?_); (try simp only [go_sem, fN, seval, eT, iR, dT, dF, nL]); (repeat refine Ai ?_); (try (refine hK _ ?_; clear hK K)); try refine iC ?_)
     refine AT (An b') (Bg hS hM rfl) trivial ?_ rfl fun j hj => ?_
     ·simp only [go_sem, fN, seval, eT, iR, AG, AH, AY]
     ·show BD _ _ j = _
      rw [Ah hj]
   | [], h => simp at h
   | [_], h => simp at h
   | _ :: _ :: _ :: _, h => simp at h; omega
  ·rw [if_neg hk3]
   by_cases hk5 : t.kind = 5
   ·rw [if_pos hk5]
    have hk5T := eq_true hk5
    generalize hR : (if CB [] w = true then ((match Dh m t.idx with | none => true | some n => decide (n = (w.length : Int))), D3 m t.idx w.length) else (false, m)) = R at *
    obtain ⟨b', m'⟩ := R
    simp only
    repeat' with_reducible first | refine W ?_ | refine Z0 ?_ | ((first | refine Wo fun K hK => ?_ | refine Wp ?_ | refine Wq ?_ | refine Wr ?_); (try simp only [go_sem, fN, seval, eT, iR, AS.startS, n3, hk2, hk3, hk5T, dT, dF, nL]); (repeat refine Ai ?_); (try (refine hK _ ?_; clear hK K)); try refine iC ?_)
    refine IWP.loopD [8] (fun q s => ∃ k, k ≤ w.length ∧ q = w.length - k ∧ CB [] (w.take k) = true ∧ s.env 1 = BI w ∧ s.env 2 = .one (.mptr M) ∧ s.env 3 = .one (.ptr 3 1 0 0) ∧ s.env 52 = BI w ∧ s.env 53 = AQ w.length ∧ s.env 54 = AQ k ∧ s.S 3 = some (Bp t) ∧ s.S 8 = none ∧ ∀ j, 1000 ≤ j → s.S j = S j) w.length
     ⟨0, Nat.zero_le _, rfl, rfl, rfl, rfl, rfl, rfl, rfl, rfl, by simp only [go_sem, fN, seval, eT, iR], by simp only [go_sem, fN, seval, eT, iR, n8], fun j hj => by simp only [go_sem, fN, seval, eT, iR, AU, hj]⟩ ?_
    rintro q ⟨env, S1⟩ ⟨k, hk, rfl, hh, e1, e2, e3, e52, e53, e54, s3, s8, sj⟩
    simp only at e1 e2 e3 e52 e53 e54 s3 s8 sj
    by_cases hlt : (k : Int) < w.length
    ·obtain ⟨x, hx⟩ := A1 (show k < w.length by omega)
     obtain ⟨hx1, hx2⟩ := FX hh hx
     rw [List.nil_append] at hx1 hx2
     have hfc := Ge (w.take k) x
     simp only [GI, AD] at hfc
     rw [show BI (w.take k) = .one (.st (.list ((w.map Af).take k))) by rw [← List.map_take]] at hfc
     iterate 11 with_reducible first | refine W ?_ | refine Z0 ?_ | ((first | refine Wo fun K hK => ?_ | refine Wp ?_ | refine Wq ?_ | refine Wr ?_); (try simp only [go_sem, fN, seval, eT, iR, e1, e2, e3, e52, e53, e54, s3, s8, hlt, hx, AD, dT, dF, nL]); (repeat refine Ai ?_); (try (refine hK _ ?_; clear hK K)); try refine iC ?_)
     refine IWP.ghost (Ar.freeze 8 [8] (ty := 24) (xs := [.int .i64 x.kind, .int .i64 x.idx, .list (x.subs.map Af)]) (by (simp only [go_sem, fN, seval, eT, iR, AD])) (by simp) (fun t ht => by rw [List.mem_singleton] at ht; subst ht; rfl)) ?_
     by_cases hx1k : x.kind = 1
     ·have hxT := eq_true hx1k
      cases hd : (w.take k).any (fun y => x.same y) with
      | false =>
       rw [hd] at hfc
       have hh2 := hx1 ⟨hx1k, hd⟩
       repeat' (first | (with_reducible first | refine W ?_ | refine Z0 ?_ | ((first | refine Wo fun K hK => ?_ | refine Wp ?_ | refine Wq ?_ | refine Wr ?_); (try simp only [go_sem, fN, seval, eT, iR, e1, e2, e3, e52, e53, e54, s3, hlt, hx, hxT, hwl, hk, List.mem_singleton, AS.caps, List.all_cons, List.all_nil, AC.stay, Bool.and_self, AD, dT, dF, nL]); (repeat refine Ai ?_); (try (refine hK _ ?_; clear hK K)); try refine iC ?_)) | refine Cg _ (hfc) ?_)
       refine AO ⟨w.length - (k + 1), by omega, k + 1, by omega, rfl, hh2, ?_, ?_, ?_, ?_, ?_, ?_, ?_, ?_, fun j hj => CL hS (by decide) hj ?_⟩
       ·simp only [go_sem, fN, seval, AS.drop, AJ, AC.clears, AC.clear, AC.highs, AC.high, Bool.not_false, Bool.true_and, Bool.and_self, AV.purge, AV.purges, AC.purge, AF.purge, List.contains_cons, List.contains_nil, Nat.reduceBEq, Bool.or_self, Bool.or_false, Bool.false_or, Bool.or_true, eT, iR, e1]
       ·simp only [go_sem, fN, seval, AS.drop, AJ, AC.clears, AC.clear, AC.highs, AC.high, Bool.not_false, Bool.true_and, Bool.and_self, AV.purge, AV.purges, AC.purge, AF.purge, List.contains_cons, List.contains_nil, Nat.reduceBEq, Bool.or_self, Bool.or_false, Bool.false_or, Bool.or_true, eT, iR, e2, FA, hM]
       ·simp only [go_sem, fN, seval, AS.drop, AJ, AC.clears, AC.clear, AC.highs, AC.high, Bool.not_false, Bool.true_and, Bool.and_self, AV.purge, AV.purges, AC.purge, AF.purge, List.contains_cons, List.contains_nil, Nat.reduceBEq, Bool.or_self, Bool.or_false, Bool.false_or, Bool.or_true, eT, iR, e3]
       ·simp only [go_sem, fN, seval, AS.drop, AJ, AC.clears, AC.clear, AC.highs, AC.high, Bool.not_false, Bool.true_and, Bool.and_self, AV.purge, AV.purges, AC.purge, AF.purge, List.contains_cons, List.contains_nil, Nat.reduceBEq, Bool.or_self, Bool.or_false, Bool.false_or, Bool.or_true, eT, iR, e52]
       ·simp only [go_sem, fN, seval, AS.drop, AJ, AC.clears, AC.clear, AC.highs, AC.high, Bool.not_false, Bool.true_and, Bool.and_self, AV.purge, AV.purges, AC.purge, AF.purge, List.contains_cons, List.contains_nil, Nat.reduceBEq, Bool.or_self, Bool.or_false, Bool.false_or, Bool.or_true, eT, iR, e53]
       ·rfl
       ·simp only [go_sem, fN, seval, AS.drop, AJ, AC.clears, AC.clear, AC.highs, AC.high, Bool.not_false, Bool.true_and, Bool.and_self, AV.purge, AV.purges, AC.purge, AF.purge, List.contains_cons, List.contains_nil, Nat.reduceBEq, Bool.or_self, Bool.or_false, Bool.false_or, Bool.or_true, eT, iR, s3]
       ·rfl
       ·have hj2 := sj j hj
        simp only [go_sem, fN, seval, eT, iR, AU, hj, hj2]
      | true =>
       rw [hd] at hfc
       have hno : CB [] w = false := hx2 (by rw [hd]; simp)
       rw [hno] at hR
       simp only [Bool.false_eq_true, if_false, Prod.mk.injEq] at hR
       obtain ⟨rfl, rfl⟩ := hR
       rw [hself]
       repeat' (first | (with_reducible first | refine W ?_ | refine Z0 ?_ | ((first | refine Wo fun K hK => ?_ | refine Wp ?_ | refine Wq ?_ | refine Wr ?_); (try simp only [go_sem, fN, seval, eT, iR, e1, e2, e3, e52, e53, e54, s3, hlt, hx, hxT, hwl, hk, List.mem_singleton, AS.caps, List.all_cons, List.all_nil, AC.stay, Bool.and_self, AD, dT, dF, nL]); (repeat refine Ai ?_); (try (refine hK _ ?_; clear hK K)); try refine iC ?_)) | refine Cg _ (hfc) ?_)
       refine AT (An false) hS trivial ?_ rfl fun j hj => ?_
       ·simp only [go_sem, fN, seval, eT, iR, AG, AH, AY]
       ·have hj2 := sj j hj
        simp only [go_sem, fN, seval, eT, iR, AU, hj, hj2]
     ·have hno : CB [] w = false := hx2 (fun e => hx1k e.1)
      rw [hno] at hR
      simp only [Bool.false_eq_true, if_false, Prod.mk.injEq] at hR
      obtain ⟨rfl, rfl⟩ := hR
      rw [hself]
      repeat' (first | (with_reducible first | refine W ?_ | refine Z0 ?_ | ((first | refine Wo fun K hK => ?_ | refine Wp ?_ | refine Wq ?_ | refine Wr ?_); (try simp only [go_sem, fN, seval, eT, iR, e1, e2, e3, e52, e53, e54, s3, hlt, hx, hx1k, hwl, hk, List.mem_singleton, AS.caps, AD, dT, dF, nL]); (repeat refine Ai ?_); (try (refine hK _ ?_; clear hK K)); try refine iC ?_)) | refine Cg _ (hfc) ?_)
      refine AT (An false) hS trivial ?_ rfl fun j hj => ?_
      ·simp only [go_sem, fN, seval, eT, iR, AG, AH, AY]
      ·have hj2 := sj j hj
       simp only [go_sem, fN, seval, eT, iR, AU, hj, hj2]
    ·rw [List.take_of_length_le (by omega)] at hh
     rw [hh] at hR
     simp only [if_true, Prod.mk.injEq] at hR
     obtain ⟨hb1, rfl⟩ := hR
     have sMM := (sj M hM).trans sM
     have hg := DG m t.idx
     have hp := EE m t.idx w.length
     cases hgk : Dh m t.idx with
     | none =>
      rw [hgk] at hg hb1
      subst hb1
      repeat' with_reducible first | refine W ?_ | refine Z0 ?_ | ((first | refine Wo fun K hK => ?_ | refine Wp ?_ | refine Wq ?_ | refine Wr ?_); (try simp only [go_sem, fN, seval, eT, iR, e1, e2, e3, e52, e53, e54, s3, hlt, sMM, AU, BZ, hM, hg, hp, Ej, Bq, DW, KV.of, KV.of1, dT, dF, nL]); (repeat refine Ai ?_); (try (refine hK _ ?_; clear hK K)); try refine iC ?_)
      refine AT (An true) (Bg hS hM rfl) trivial ?_ rfl fun j hj => ?_
      ·simp only [go_sem, fN, seval, eT, iR, AG, AH, AY]
      ·have hj2 := sj j hj
       simp only [go_sem, fN, seval, eT, iR, AU, hj, hj2]
     | some n =>
      rw [hgk] at hg hb1
      simp only at hb1
      subst hb1
      repeat' with_reducible first | refine W ?_ | refine Z0 ?_ | ((first | refine Wo fun K hK => ?_ | refine Wp ?_ | refine Wq ?_ | refine Wr ?_); (try simp only [go_sem, fN, seval, eT, iR, e1, e2, e3, e52, e53, e54, s3, hlt, sMM, AU, BZ, hM, hg, hp, Ej, Bq, DW, KV.of, KV.of1, dT, dF, nL]); (repeat refine Ai ?_); (try (refine hK _ ?_; clear hK K)); try refine iC ?_)
      refine AT (An (decide (n = (w.length : Int)))) (Bg hS hM rfl) trivial ?_ rfl fun j hj => ?_
      ·simp only [go_sem, fN, seval, eT, iR, AG, AH, AY]
      ·have hj2 := sj j hj
       simp only [go_sem, fN, seval, eT, iR, AU, hj, hj2]
   ·rw [if_neg hk5, hself]
    repeat' with_reducible first | refine W ?_ | refine Z0 ?_ | ((first | refine Wo fun K hK => ?_ | refine Wp ?_ | refine Wq ?_ | refine Wr ?_); (try simp only [go_sem, fN, seval, eT, iR, AS.startS, n3, hk2, hk3, hk5, dT, dF, nL]); (repeat refine Ai ?_); (try (refine hK _ ?_; clear hK K)); try refine iC ?_)
    refine AT (An true) hS trivial ?_ rfl fun j hj => ?_
    ·simp only [go_sem, fN, seval, eT, iR, AG, AH, AY]
    ·simp only [go_sem, fN, seval, eT, iR, AU, hj]

end Go.Proofs.YtcgnojefbalbbaaDoor
