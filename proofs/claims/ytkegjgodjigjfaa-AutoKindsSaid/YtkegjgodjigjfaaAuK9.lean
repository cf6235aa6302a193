/-
  Proved: for any two small automata, inclusion and the number of kinds of terms are what the document says: the law AutoKinds returns true. Conditions: none.
-/
import Derived.Test.YtkegjgodjigjfaaAuK8
import Derived.Test.YtkegjgodjigjfaaRows
import Derived.ProofKit
import Derived.OpenShut
import Derived.JoinedCond
import Derived.Deep.Slices
namespace Go.Proofs.Ytkegjgodjigjfaa
open Go Go.RowKit
set_option linter.unusedVariables false
set_option linter.unusedSimpArgs false
set_option maxHeartbeats 2000000
theorem Ci.args {t : Tm} (h : Ci t) : t.args.length ≤ 1000000 ∧ ∀ x ∈ t.args, Ci x := by
 cases h with
 | mk h1 h2 => exact ⟨h1, h2⟩
theorem D3 (a : Au) (ga : a.Good) (hs64 : a.states ≤ 64) (hm : a.moves.length ≤ 100000) (t : Tm) (hz : Ci t) : Ap Try.prog 26 [aAu a, aTm t] (Gr (a.ends t)) := by
 induction h : SizeOf.sizeOf t using Nat.strongRecOn generalizing t with
 | _ N ih =>
 subst h
 obtain ⟨hkn, hnar⟩ := hz.args
 refine Mh.ac fun C hC => ?_
 unfold HS
 repeat' with_reducible first | refine W ?_ | refine Z0 ?_ | ((first | refine Wo fun K hK => ?_ | refine Wp ?_ | refine Wq ?_ | refine Wr ?_); (try simp only [go_sem, fN, seval, eT, iR, dT, dF, nL]); (repeat refine Ai ?_); (try (refine hK _ ?_; clear hK K)); try refine iC ?_)
 refine IWP.ghost (Ae.own (C := C) 5 50 55 1 (xs := ([] : List (List Bool)).map OG) rfl rfl NF (by omega)) ?_
 refine IWP.loopD [] (fun q s => ∃ k, k ≤ t.args.length ∧ q = t.args.length - k ∧ s.env 2 = .one (.ptr 2 1 0 0) ∧ s.S 2 = some (AL a) ∧ s.env 3 = .one (.ptr 3 1 0 0) ∧ s.S 3 = some (.box 39 [.st (.str t.name), .st (.list (t.args.map CT))]) ∧ s.env 5 = .one (.row 50 k) ∧ s.S 50 = some (.arow 55 1 (((t.args.take k).map a.ends).map OG)) ∧ s.env 6 = AN k) t.args.length
  ⟨0, Nat.zero_le _, rfl, rfl, rfl, rfl, rfl, rfl, rfl, rfl⟩ ?_
 rintro q ⟨env, St⟩ ⟨k, hk, rfl, e2, s2, e3, s3, e5, s50, e6⟩
 simp only at e2 s2 e3 s3 e5 s50 e6
 unfold AL at s2
 by_cases hlt : (k : Int) < t.args.length
 ·obtain ⟨x, hx⟩ := Ad (show k < t.args.length by omega)
  have hxm := AR hx
  have hkl : ((t.args.take k).map a.ends).length = k := by
   rw [List.length_map, List.length_take]
   omega
  repeat' (first | (with_reducible first | refine W ?_ | refine Z0 ?_ | ((first | refine Wo fun K hK => ?_ | refine Wp ?_ | refine Wq ?_ | refine Wr ?_); (try simp only [go_sem, fN, seval, eT, iR, e2, s2, e3, s3, e5, s50, e6, hlt, hx, hkl, dT, dF, nL]); (repeat refine Ai ?_); (try (refine hK _ ?_; clear hK K)); try refine iC ?_)) | refine Cg _ (ih _ (Tm.lt_of_arg hxm) x (hnar x hxm) rfl) ?_)
  refine AE ⟨t.args.length - (k + 1), by omega, k + 1, by omega, rfl, ?_⟩
  simp only [go_sem, fN, seval, AS.drop, AU, AC.clears, AC.clear, AC.highs, AC.high, Bool.not_false, Bool.true_and, Bool.and_self, AV.purge, AV.purges, AC.purge, AH.purge, List.contains_cons, List.contains_nil, Nat.reduceBEq, Bool.or_self, Bool.or_false, Bool.false_or, Bool.or_true, eT, iR, e2, s2, e3, s3, e5, s50, e6, AL]
  rw [Af hx]
  simp
  try omega
 ·rw [List.take_of_length_le (l := t.args) (i := k) (by omega)] at s50
  have hkl : (t.args.map a.ends).length = t.args.length := List.length_map _
  have hke : k = t.args.length := by omega
  have hE := Pm a ga hs64 hm t.name (t.args.map a.ends) (fun l hl => by
   obtain ⟨y, _, rfl⟩ := List.mem_map.1 hl
   exact a.ends_length y) (by omega)
  repeat' (first | (with_reducible first | refine W ?_ | refine Z0 ?_ | ((first | refine Wo fun K hK => ?_ | refine Wp ?_ | refine Wq ?_ | refine Wr ?_); (try simp only [go_sem, fN, seval, eT, iR, e2, s2, e3, s3, e5, s50, e6, hlt, hke, hkl, Nat.lt_irrefl, dT, dF, nL]); (repeat refine Ai ?_); (try (refine hK _ ?_; clear hK K)); try refine iC ?_)) | refine Cg _ (hE) ?_)
  simp only [go_sem, fN, seval, Ab, AS.result, AI, AJ, AW]
  rw [Au.ends_eq, Au.endsL_eq]
theorem Dc (a : Au) (ga : a.Good) (hs64 : a.states ≤ 64) (hm : a.moves.length ≤ 100000) (t : Tm) (hz : Ci t) : Ap Try.prog 27 [aAu a, aTm t] (As (a.acc t)) := by
 have hL := Rh a (a.ends t) (fun s hs => by
  have := ga.last s hs
  rw [a.ends_length]
  omega)
 refine IH.ac fun C hC => ?_
 unfold Es
 repeat' (first | (with_reducible first | refine W ?_ | refine Z0 ?_ | ((first | refine Wo fun K hK => ?_ | refine Wp ?_ | refine Wq ?_ | refine Wr ?_); (try simp only [go_sem, fN, seval, eT, iR, dT, dF, nL]); (repeat refine Ai ?_); (try (refine hK _ ?_; clear hK K)); try refine iC ?_)) | refine Cg _ (D3 a ga hs64 hm t hz) ?_ | refine Cg _ (hL) ?_)
 simp only [go_sem, fN, seval, Ab, AS.result, AI, AJ, AW]
 rfl
theorem NQ (l : List Bool) (b : Bool) : A6 (l ++ [b]) = A6 l ++ ⟨#[if b then 49 else 48]⟩ := by
 rw [← Kg]
 rfl
theorem IY (l : List Bool) (hl : l.length ≤ 1000000) : Ap Try.prog 25 [Gr l] (FO (A6 l)) := by
 refine O8.ac fun C hC => ?_
 unfold KJ
 repeat' with_reducible first | refine W ?_ | refine Z0 ?_ | ((first | refine Wo fun K hK => ?_ | refine Wp ?_ | refine Wq ?_ | refine Wr ?_); (try simp only [go_sem, fN, seval, eT, iR, dT, dF, nL]); (repeat refine Ai ?_); (try (refine hK _ ?_; clear hK K)); try refine iC ?_)
 refine IWP.loop (fun q s => ∃ k, k ≤ l.length ∧ q = l.length - k ∧ s.env 0 = Gr l ∧ s.env 3 = FO (A6 (l.take k)) ∧ s.env 4 = AN k) l.length ⟨0, Nat.zero_le _, rfl, rfl, rfl, rfl⟩ ?_
 rintro q ⟨env, S⟩ ⟨k, hk, rfl, e0, e3, e4⟩
 simp only at e0 e3 e4
 have hll : (l.map Md).length = l.length := by simp
 by_cases hlt : (k : Int) < l.length
 ·obtain ⟨x, hx⟩ := Ad (show k < l.length by omega)
  have hsz : (A6 (l.take k)).size + 1 ≤ maxLen := by rw [Ft, List.length_take, Bu]; omega
  have hs1 : (⟨#[49]⟩ : ByteArray).size = 1 := rfl
  have hs0 : (⟨#[48]⟩ : ByteArray).size = 1 := rfl
  have hsn := NQ (l.take k) x
  rw [← Af hx] at hsn
  cases x with
  | true =>
   have hsn : A6 (l.take k) ++ ⟨#[49]⟩ = A6 (l.take (k + 1)) := hsn.symm
   repeat' with_reducible first | refine W ?_ | refine Z0 ?_ | ((first | refine Wo fun K hK => ?_ | refine Wp ?_ | refine Wq ?_ | refine Wr ?_); (try simp only [go_sem, fN, seval, eT, iR, e0, e3, e4, hlt, hx, hll, hs1, hs0, hsz, hsn, dT, dF, nL]); (repeat refine Ai ?_); (try (refine hK _ ?_; clear hK K)); try refine iC ?_)
   refine AE ⟨l.length - (k + 1), by omega, k + 1, by omega, rfl, e0, rfl, rfl⟩
  | false =>
   have hsn : A6 (l.take k) ++ ⟨#[48]⟩ = A6 (l.take (k + 1)) := hsn.symm
   repeat' with_reducible first | refine W ?_ | refine Z0 ?_ | ((first | refine Wo fun K hK => ?_ | refine Wp ?_ | refine Wq ?_ | refine Wr ?_); (try simp only [go_sem, fN, seval, eT, iR, e0, e3, e4, hlt, hx, hll, hs1, hs0, hsz, hsn, dT, dF, nL]); (repeat refine Ai ?_); (try (refine hK _ ?_; clear hK K)); try refine iC ?_)
   refine AE ⟨l.length - (k + 1), by omega, k + 1, by omega, rfl, e0, rfl, rfl⟩
 ·have hke : k = l.length := by omega
  rw [hke, List.take_length] at e3
  repeat' with_reducible first | refine W ?_ | refine Z0 ?_ | ((first | refine Wo fun K hK => ?_ | refine Wp ?_ | refine Wq ?_ | refine Wr ?_); (try simp only [go_sem, fN, seval, eT, iR, e0, e3, e4, hlt, hll, dT, dF, nL]); (repeat refine Ai ?_); (try (refine hK _ ?_; clear hK K)); try refine iC ?_)
  simp only [go_sem, fN, seval, Ab, AS.result, AI, AJ, AW]
theorem Pc (c n : Nat) : (c : Int).tmod (n : Int) = ((c % n : Nat) : Int) := (Int.ofNat_tmod c n).symm
theorem QN (c n : Nat) : (c : Int).tdiv (n : Int) = ((c / n : Nat) : Int) := (Int.ofNat_tdiv c n).symm
instance lensEncS : MC JN 1 := ⟨fun _ => rfl⟩
theorem Jm (a b : Au) (ga : a.Good) (gb : b.Good) (ha : Ak a = true) (hb : Ak b = true) (hma : a.moves.length ≤ 100000) (hmb : b.moves.length ≤ 100000) :
  Ap Try.prog 24 [aAu a, aAu b] (LQ (BT a b (CP a b))) := by
 obtain ⟨hms, _⟩ := Cv ha hb
 have ha3 := Aa ha
 have hb3 := Aa hb
 obtain ⟨k0, hk0, hst⟩ := Fx (a := a) (b := b) hms ha3 hb3
 have hgr := fun {k} => IX (a := a) (b := b) (k := k) hms ha3 hb3
 have hokit := KP (a := a) (b := b) hms
 have hMl : (CP a b).length = a.moves.length + b.moves.length := List.length_append
 have hMe : a.moves.map Aj ++ b.moves.map Aj = (CP a b).map Aj := by rw [CP, List.map_append]
 generalize CP a b = ms at *
 generalize Ah [a, b] = syms at *
 have hMll : (ms.map Aj).length = ms.length := by simp
 refine K9.ac fun C hC => ?_
 unfold GF
 repeat' with_reducible first | refine W ?_ | refine Z0 ?_ | ((first | refine Wo fun K hK => ?_ | refine Wp ?_ | refine Wq ?_ | refine Wr ?_); (try simp only [go_sem, fN, seval, eT, iR, hMe, dT, dF, nL]); (repeat refine Ai ?_); (try (refine hK _ ?_; clear hK K)); try refine iC ?_)
 refine IWP.ghost (Ae.own 5 119 39 2 rfl rfl (by simp) (by rw [hC]; decide)) ?_
 refine IWP.ghost (Ae.own 6 115 9 1 rfl rfl (by simp) (by rw [hC]; decide)) ?_
 refine IWP.loop (fun q s => ∃ i, i ≤ k0 + 1 ∧ q = k0 + 2 - i ∧ s.env 2 = .one (.ptr 2 1 0 0) ∧ s.env 3 = .one (.ptr 3 1 0 0) ∧ s.env 5 = .one (.row 119 (itG a b ms i).length) ∧ s.env 6 = .one (.row 115 (itG a b ms i).length) ∧ s.env 7 = .one (.row 21 ms.length) ∧ s.S 2 = some (AL a) ∧ s.S 3 = some (AL b) ∧ s.S 21 = some (.arow 46 3 (ms.map Aj)) ∧ s.S 119 = some (.arow 39 2 ((itG a b ms i).map CT)) ∧ s.S 115 = some (.arow 9 1 (((itG a b ms i).map (Dq a b)).map JN)) ∧
  (∃ m, s.env 8 = As m ∧ (m = false → ∃ j, i = j + 1 ∧ itG a b ms (j + 1) = itG a b ms j) ∧ (m = true → i ≤ k0)) ∧ s.S 15 = none ∧ s.S 85 = none) (k0 + 2)
  ⟨0, Nat.zero_le _, rfl, rfl, rfl, rfl, rfl, by simp only [go_sem, fN, seval, eT, iR, hMl, hMll], rfl, rfl, by simp only [go_sem, fN, seval, eT, iR], by simp only [go_sem, fN, seval, eT, iR]; rfl, by simp only [go_sem, fN, seval, eT, iR]; rfl, ⟨true, rfl, by simp, fun _ => Nat.zero_le _⟩, rfl, rfl⟩ ?_
 rintro q ⟨env, S⟩ ⟨i, hi, rfl, e2, e3, e5, e6, e7, s2, s3, s21, s119, s115, ⟨mo, e8, hm1, hm2⟩, s15, s85⟩
 simp only at e2 e3 e5 e6 e7 s2 s3 s21 s119 s115 e8 s15 s85
 cases mo with
 | false =>
  obtain ⟨j, rfl, hj⟩ := hm1 rfl
  have hR := hgr hj
  rw [← hj] at hR
  rw [hR] at e5 s119
  repeat' with_reducible first | refine W ?_ | refine Z0 ?_ | ((first | refine Wo fun K hK => ?_ | refine Wp ?_ | refine Wq ?_ | refine Wr ?_); (try simp only [go_sem, fN, seval, eT, iR, e2, e3, e5, e8, dT, dF, nL]); (repeat refine Ai ?_); (try (refine hK _ ?_; clear hK K)); try refine iC ?_)
  simp only [go_sem, fN, seval, Ab, AS.result, AI, AJ, AW, s119, e5]
 | true =>
  have hik := hm2 rfl
  obtain ⟨o0, ho0⟩ : ∃ o0, itG a b ms i = o0 := ⟨_, rfl⟩
  have hok0 := hokit i
  have hit2 : itG a b ms (i + 1) = IC a b ms o0 := by rw [← ho0]; rfl
  rw [ho0] at e5 e6 s119 s115 hok0
  repeat' with_reducible first | refine W ?_ | refine Z0 ?_ | ((first | refine Wo fun K hK => ?_ | refine Wp ?_ | refine Wq ?_ | refine Wr ?_); (try simp only [go_sem, fN, seval, eT, iR, e2, e3, e5, e8, dT, dF, nL]); (repeat refine Ai ?_); (try (refine hK _ ?_; clear hK K)); try refine iC ?_)
  refine IWP.loop (fun q s => ∃ k, k ≤ ms.length ∧ q = ms.length - k ∧ s.env 2 = .one (.ptr 2 1 0 0) ∧ s.env 3 = .one (.ptr 3 1 0 0) ∧ s.env 5 = .one (.row 119 ((ms.take k).foldl (Bf a b) o0).length) ∧ s.env 6 = .one (.row 115 ((ms.take k).foldl (Bf a b) o0).length) ∧ s.env 7 = .one (.row 21 ms.length) ∧ s.env 8 = As (decide (o0.length < ((ms.take k).foldl (Bf a b) o0).length)) ∧ s.env 9 = AN k ∧ s.S 2 = some (AL a) ∧ s.S 3 = some (AL b) ∧ s.S 21 = some (.arow 46 3 (ms.map Aj)) ∧ s.S 119 = some (.arow 39 2 (((ms.take k).foldl (Bf a b) o0).map CT)) ∧ s.S 115 = some (.arow 9 1 ((((ms.take k).foldl (Bf a b) o0).map (Dq a b)).map JN)) ∧ s.S 15 = none ∧ s.S 85 = none) ms.length
   ⟨0, Nat.zero_le _, rfl, e2, e3, by simp only [go_sem, fN, seval, eT, iR, e5]; rfl, by simp only [go_sem, fN, seval, eT, iR, e6]; rfl, e7, by simp only [go_sem, fN, seval, eT, iR]; simp, rfl, s2, s3, s21, by simp only [go_sem, fN, seval, eT, iR, s119]; rfl, by simp only [go_sem, fN, seval, eT, iR, s115]; rfl, s15, s85⟩ ?_
  clear e2 e3 e5 e6 e7 e8 s2 s3 s21 s119 s115 s15 s85
  rintro q ⟨env, S⟩ ⟨k, hk, rfl, e2, e3, e5, e6, e7, e8, e9, s2, s3, s21, s119, s115, s15, s85⟩
  simp only at e2 e3 e5 e6 e7 e8 e9 s2 s3 s21 s119 s115 s15 s85
  by_cases hlt : (k : Int) < ms.length
  ·obtain ⟨m, hmk⟩ := Ad (show k < ms.length by omega)
   have hmm := AR hmk
   obtain ⟨hsy, hm2⟩ := hms m hmm
   have hfold : (ms.take (k + 1)).foldl (Bf a b) o0 = Bf a b ((ms.take k).foldl (Bf a b) o0) m := by
    rw [Af hmk, List.foldl_append]
    rfl
   have hoko : OkG a b syms ((ms.take k).foldl (Bf a b) o0) := OkG.moves (fun m hm => hms m (List.mem_of_mem_take hm)) hok0
   have hbase := (DD (f := Bf a b) (fun out m => G6 out m) (ms.take k) o0).length_le
   obtain ⟨o, ho⟩ : ∃ o, (ms.take k).foldl (Bf a b) o0 = o := ⟨_, rfl⟩
   rw [ho] at e5 e6 e8 s119 s115 hfold hoko hbase
   have holen := hoko.len ha3 hb3
   have hol : (o.map CT).length = o.length := by simp
   have hn2 : ¬ 2 < m.frm.length := by omega
   have hn2' : ¬ (2 : Int) < m.frm.length := by omega
   by_cases hskip : 0 < m.frm.length ∧ o.length = 0
   ·have hsk : IU m o = true := by unfold IU; simp [hskip]
    have hmv : Bf a b o m = o := by unfold Bf; rw [if_pos hsk]
    have h0' : (0 : Int) < m.frm.length := by omega
    have h1' : ((o.length : Nat) : Int) = 0 := by omega
    rw [hmv] at hfold
    repeat' with_reducible first | refine W ?_ | refine Z0 ?_ | ((first | refine Wo fun K hK => ?_ | refine Wp ?_ | refine Wq ?_ | refine Wr ?_); (try simp only [go_sem, fN, seval, eT, iR, e2, e3, e5, e6, e7, e8, e9, s21, s119, hlt, hmk, hMll, Aj, hol, hn2, hn2', h0', h1', hskip, dT, dF, nL]); (repeat refine Ai ?_); (try (refine hK _ ?_; clear hK K)); try refine iC ?_)
    refine AE ⟨ms.length - (k + 1), by omega, k + 1, by omega, rfl, e2, e3, ?_⟩
    rw [hfold]
    exact ⟨e5, e6, e7, e8, rfl, s2, s3, s21, s119, s115, s15, s85⟩
   ·have hsk : IU m o = false := by
     unfold IU
     rw [decide_eq_false hn2, Bool.false_or]
     by_cases h0 : 0 < m.frm.length
     ·rw [decide_eq_false (p := o.length = 0) (fun h => hskip ⟨h0, h⟩), Bool.and_false]
     ·rw [decide_eq_false h0, Bool.false_and]
    have hmv : Bf a b o m = (List.range (o.length ^ m.frm.length)).foldl (CE a b m o.length) o := by unfold Bf; rw [hsk]; rfl
    rw [hmv] at hfold
    have hfl : m.frm.length ≤ 2 := hm2
    have hcase : (0 < m.frm.length ∧ (0 : Int) < m.frm.length ∧ ¬ o.length = 0 ∧ ¬ ((o.length : Nat) : Int) = 0) ∨ (¬ 0 < m.frm.length ∧ ¬ (0 : Int) < m.frm.length ∧ True ∧ True) := by
     by_cases h0 : 0 < m.frm.length
     ·have h1 : ¬ o.length = 0 := fun h => hskip ⟨h0, h⟩
      exact .inl ⟨h0, by omega, h1, by omega⟩
     ·exact .inr ⟨h0, by omega, trivial, trivial⟩
    rcases hcase with ⟨h0, h0', h1, h1'⟩ | ⟨h0, h0', h1, h1'⟩
    all_goals (
     repeat' with_reducible first | refine W ?_ | refine Z0 ?_ | ((first | refine Wo fun K hK => ?_ | refine Wp ?_ | refine Wq ?_ | refine Wr ?_); (try simp only [go_sem, fN, seval, eT, iR, e2, e3, e5, e6, e7, e8, e9, s21, s119, hlt, hmk, hMll, Aj, hol, hn2, hn2', h0, h0', h1, h1', dT, dF, nL]); (repeat refine Ai ?_); (try (refine hK _ ?_; clear hK K)); try refine iC ?_)
     refine IWP.at_ (fun env S => env 2 = .one (.ptr 2 1 0 0) ∧ env 3 = .one (.ptr 3 1 0 0) ∧ env 5 = .one (.row 119 o.length) ∧ env 6 = .one (.row 115 o.length) ∧ env 7 = .one (.row 21 ms.length) ∧ env 8 = As (decide (o0.length < o.length)) ∧ env 9 = AN k ∧ env 10 = AN m.frm.length ∧ env 11 = AN o.length ∧ env 12 = AN 1 ∧ env 13 = AN 0 ∧ S 2 = some (AL a) ∧ S 3 = some (AL b) ∧ S 21 = some (.arow 46 3 (ms.map Aj)) ∧ S 119 = some (.arow 39 2 (o.map CT)) ∧ S 115 = some (.arow 9 1 ((o.map (Dq a b)).map JN)) ∧ S 15 = none ∧ S 85 = none)
      ⟨e2, e3, by simp only [go_sem, fN, seval, eT, iR, e5], e6, e7, e8, e9, by simp only [go_sem, fN, seval, eT, iR], by simp only [go_sem, fN, seval, eT, iR], rfl, rfl, s2, s3, s21, s119, s115, s15, s85⟩ ?_)
    all_goals (
     clear e2 e3 e5 e6 e7 e8 e9 s2 s3 s21 s119 s115 s15 s85
     rintro env S ⟨e2, e3, e5, e6, e7, e8, e9, e10, e11, e12, e13, s2, s3, s21, s119, s115, s15, s85⟩
     have hpw : ∀ j, j ≤ 2 → o.length ^ j ≤ 4096 := fun j hj => by
      have h1 : o.length ^ j ≤ 64 ^ j := Nat.pow_le_pow_left holen j
      have h2 : 64 ^ j ≤ 64 ^ 2 := Nat.pow_le_pow_right (by omega) hj
      omega
     refine IWP.loop (fun q s => ∃ j, j ≤ m.frm.length ∧ q = m.frm.length - j ∧ s.env 2 = .one (.ptr 2 1 0 0) ∧ s.env 3 = .one (.ptr 3 1 0 0) ∧ s.env 5 = .one (.row 119 o.length) ∧ s.env 6 = .one (.row 115 o.length) ∧ s.env 7 = .one (.row 21 ms.length) ∧ s.env 8 = As (decide (o0.length < o.length)) ∧ s.env 9 = AN k ∧ s.env 10 = AN m.frm.length ∧ s.env 11 = AN o.length ∧ s.env 12 = AN ((o.length ^ j : Nat) : Int) ∧ s.env 13 = AN j ∧ s.S 2 = some (AL a) ∧ s.S 3 = some (AL b) ∧ s.S 21 = some (.arow 46 3 (ms.map Aj)) ∧ s.S 119 = some (.arow 39 2 (o.map CT)) ∧ s.S 115 = some (.arow 9 1 ((o.map (Dq a b)).map JN)) ∧ s.S 15 = none ∧ s.S 85 = none) m.frm.length
      ⟨0, Nat.zero_le _, rfl, e2, e3, e5, e6, e7, e8, e9, e10, e11, e12, e13, s2, s3, s21, s119, s115, s15, s85⟩ ?_
     clear e2 e3 e5 e6 e7 e8 e9 e10 e11 e12 e13 s2 s3 s21 s119 s115 s15 s85
     rintro q ⟨env, S⟩ ⟨j, hj, rfl, e2, e3, e5, e6, e7, e8, e9, e10, e11, e12, e13, s2, s3, s21, s119, s115, s15, s85⟩
     simp only at e2 e3 e5 e6 e7 e8 e9 e10 e11 e12 e13 s2 s3 s21 s119 s115 s15 s85
     by_cases hjl : (j : Int) < m.frm.length
     ·have hp1 := hpw (j + 1) (by omega)
      have hpe : ((o.length ^ j : Nat) : Int) * (o.length : Int) = ((o.length ^ (j + 1) : Nat) : Int) := by rw [Nat.pow_succ]; exact (Int.natCast_mul _ _).symm
      obtain ⟨P1, hP1⟩ : ∃ P1, o.length ^ (j + 1) = P1 := ⟨_, rfl⟩
      obtain ⟨P0, hP0⟩ : ∃ P0, o.length ^ j = P0 := ⟨_, rfl⟩
      rw [hP1, hP0] at hpe
      rw [hP1] at hp1
      rw [hP0] at e12
      repeat' with_reducible first | refine W ?_ | refine Z0 ?_ | ((first | refine Wo fun K hK => ?_ | refine Wp ?_ | refine Wq ?_ | refine Wr ?_); (try simp only [go_sem, fN, seval, eT, iR, e2, e3, e5, e6, e7, e8, e9, e10, e11, e12, e13, hjl, hpe, dT, dF, nL]); (repeat refine Ai ?_); (try (refine hK _ ?_; clear hK K)); try refine iC ?_)
      exact AE ⟨m.frm.length - (j + 1), by omega, j + 1, by omega, rfl, e2, e3, e5, e6, e7, e8, e9, e10, e11, by rw [hP1]; rfl, rfl, s2, s3, s21, s119, s115, s15, s85⟩
     ·have hje : j = m.frm.length := by omega
      rw [hje] at e12 e13
      have hall := hpw m.frm.length hfl
      obtain ⟨P, hP⟩ : ∃ P, o.length ^ m.frm.length = P := ⟨_, rfl⟩
      rw [hP] at e12 hall hfold
      have hirr : ¬ (m.frm.length : Int) < m.frm.length := by omega
      repeat' with_reducible first | refine W ?_ | refine Z0 ?_ | ((first | refine Wo fun K hK => ?_ | refine Wp ?_ | refine Wq ?_ | refine Wr ?_); (try simp only [go_sem, fN, seval, eT, iR, e2, e3, e5, e6, e7, e8, e9, e10, e11, e12, e13, hirr, Nat.lt_irrefl, dT, dF, nL]); (repeat refine Ai ?_); (try (refine hK _ ?_; clear hK K)); try refine iC ?_)
      refine IWP.loopD [15, 85] (fun q s => ∃ c, c ≤ P ∧ q = P - c ∧ s.env 2 = .one (.ptr 2 1 0 0) ∧ s.env 3 = .one (.ptr 3 1 0 0) ∧ s.env 5 = .one (.row 119 ((List.range c).foldl (CE a b m o.length) o).length) ∧ s.env 6 = .one (.row 115 ((List.range c).foldl (CE a b m o.length) o).length) ∧ s.env 7 = .one (.row 21 ms.length) ∧ s.env 8 = As (decide (o0.length < ((List.range c).foldl (CE a b m o.length) o).length)) ∧ s.env 9 = AN k ∧ s.env 10 = AN m.frm.length ∧ s.env 11 = AN o.length ∧ s.env 12 = AN P ∧ s.env 14 = AN c ∧ s.S 2 = some (AL a) ∧ s.S 3 = some (AL b) ∧ s.S 21 = some (.arow 46 3 (ms.map Aj)) ∧ s.S 119 = some (.arow 39 2 (((List.range c).foldl (CE a b m o.length) o).map CT)) ∧ s.S 115 = some (.arow 9 1 ((((List.range c).foldl (CE a b m o.length) o).map (Dq a b)).map JN)) ∧ s.S 15 = none ∧ s.S 85 = none) P
       ⟨0, Nat.zero_le _, rfl, e2, e3, e5, e6, e7, e8, e9, e10, e11, e12, rfl, s2, s3, s21, s119, s115, s15, s85⟩ ?_
      clear e2 e3 e5 e6 e7 e8 e9 e10 e11 e12 e13 s2 s3 s21 s119 s115 s15 s85
      rintro q ⟨env, S⟩ ⟨c, hc, rfl, e2, e3, e5, e6, e7, e8, e9, e10, e11, e12, e14, s2, s3, s21, s119, s115, s15, s85⟩
      simp only at e2 e3 e5 e6 e7 e8 e9 e10 e11 e12 e14 s2 s3 s21 s119 s115 s15 s85
      have hokc : OkG a b syms ((List.range c).foldl (CE a b m o.length) o) := OkG.steps hsy hfl hoko (Nat.le_refl _) fun x hx => by
       have := List.mem_range.1 hx
       omega
      have hprc := DD (f := CE a b m o.length) (fun out c => FD out c) (List.range c) o
      have hsn : (List.range (c + 1)).foldl (CE a b m o.length) o = CE a b m o.length ((List.range c).foldl (CE a b m o.length) o) c := by rw [List.range_succ, List.foldl_append]; rfl
      by_cases hcl : (c : Int) < P
      ·obtain ⟨o1, ho1⟩ : ∃ o1, (List.range c).foldl (CE a b m o.length) o = o1 := ⟨_, rfl⟩
       rw [ho1] at e5 e6 e8 s119 s115 hokc hprc hsn
       have ho1l := hokc.len ha3 hb3
       have hprl := hprc.length_le
       have hcP : c < o.length ^ m.frm.length := by omega
       have htg := R7 hprc (Nat.le_refl _) hfl hcP
       repeat' with_reducible first | refine W ?_ | refine Z0 ?_ | ((first | refine Wo fun K hK => ?_ | refine Wp ?_ | refine Wq ?_ | refine Wr ?_); (try simp only [go_sem, fN, seval, eT, iR, e2, e3, e5, e6, e7, e8, e9, e10, e11, e12, e14, s21, s15, s85, hcl, hmk, hMll, Aj, dT, dF, nL]); (repeat refine Ai ?_); (try (refine hK _ ?_; clear hK K)); try refine iC ?_)
       refine IWP.ghost (Ae.ownCellA (e' := 39) (id := 15) (r := 85) (cs := [.st (.str m.name), .full []]) (e := 39) 1 2 (by simp only [go_sem, fN, seval, eT, iR]) rfl (by simp only [go_sem, fN, seval, eT, iR, s85]) (by decide)) ?_
       refine IWP.loop (fun q s => ∃ j, j ≤ m.frm.length ∧ q = m.frm.length - j ∧ s.env 2 = .one (.ptr 2 1 0 0) ∧ s.env 3 = .one (.ptr 3 1 0 0) ∧ s.env 5 = .one (.row 119 o1.length) ∧ s.env 6 = .one (.row 115 o1.length) ∧ s.env 7 = .one (.row 21 ms.length) ∧ s.env 8 = As (decide (o0.length < o1.length)) ∧ s.env 9 = AN k ∧ s.env 10 = AN m.frm.length ∧ s.env 11 = AN o.length ∧ s.env 12 = AN P ∧ s.env 14 = AN c ∧ s.env 15 = .one (.ptr 15 1 0 0) ∧ s.env 16 = AN j ∧ s.S 2 = some (AL a) ∧ s.S 3 = some (AL b) ∧ s.S 21 = some (.arow 46 3 (ms.map Aj)) ∧ s.S 119 = some (.arow 39 2 (o1.map CT)) ∧ s.S 115 = some (.arow 9 1 ((o1.map (Dq a b)).map JN)) ∧ s.S 15 = some (.box 39 [.st (.str m.name), .row 85 j]) ∧ s.S 85 = some (.arow 39 2 (((Cr o1 o.length m.frm.length c).take j).map CT))) m.frm.length
        ⟨0, Nat.zero_le _, rfl, e2, e3, e5, e6, e7, e8, e9, e10, e11, e12, e14, rfl, rfl, by simp only [go_sem, fN, seval, eT, iR, s2], by simp only [go_sem, fN, seval, eT, iR, s3], by simp only [go_sem, fN, seval, eT, iR, s21], by simp only [go_sem, fN, seval, eT, iR, s119], by simp only [go_sem, fN, seval, eT, iR, s115], by (simp only [go_sem, fN, seval, eT, iR]; rfl), by simp only [go_sem, fN, seval, eT, iR]⟩ ?_
       clear e2 e3 e5 e6 e7 e8 e9 e10 e11 e12 e14 s2 s3 s21 s119 s115 s15 s85
       rintro q ⟨env, S⟩ ⟨j, hj, rfl, e2, e3, e5, e6, e7, e8, e9, e10, e11, e12, e14, e15, e16, s2, s3, s21, s119, s115, s15, s85⟩
       simp only at e2 e3 e5 e6 e7 e8 e9 e10 e11 e12 e14 e15 e16 s2 s3 s21 s119 s115 s15 s85
       have hol1 : (o1.map CT).length = o1.length := by simp
       have hl85 : (((Cr o1 o.length m.frm.length c).take j).map CT).length = j := by rw [List.length_map, List.length_take, Dw]; omega
       by_cases hjl : (j : Int) < m.frm.length
       ·have hn0 : 0 < o.length := by
         rcases Nat.eq_zero_or_pos o.length with h | h
         ·exact absurd ⟨by omega, h⟩ hskip
         ·exact h
        have hn0' : ¬ ((o.length : Nat) : Int) = 0 := by omega
        have haj : (Cr o1 o.length m.frm.length c)[j]? = some (if j = 0 then o1.getD (c % o.length) tmZ else o1.getD (c / o.length) tmZ) := by
         unfold Cr
         rw [List.getElem?_map, List.getElem?_range (by omega)]
         rfl
        by_cases hj0 : j = 0
        ·have hj0' : ((j : Nat) : Int) = 0 := by omega
         obtain ⟨r, hr⟩ : ∃ r, c % o.length = r := ⟨_, rfl⟩
         have hrl : r < o1.length := by have := Nat.mod_lt c hn0; omega
         have hmd : (c : Int).tmod ((o.length : Nat) : Int) = (r : Int) := by rw [Pc, hr]
         obtain ⟨t0, ht0⟩ := Ad hrl
         rw [if_pos hj0, hr, List.getD_eq_getElem?_getD, ht0, Option.getD_some] at haj
         have h0p : (0 : Int) < m.frm.length := by omega
         have h0q : 0 < m.frm.length := by omega
         repeat' with_reducible first | refine W ?_ | refine Z0 ?_ | ((first | refine Wo fun K hK => ?_ | refine Wp ?_ | refine Wq ?_ | refine Wr ?_); (try simp only [go_sem, fN, seval, eT, iR, e2, e3, e5, e6, e7, e8, e9, e10, e11, e12, e14, e15, e16, s119, s15, s85, hjl, hj0', h0p, h0q, hol1, hl85, hmd, hn0', ht0, dT, dF, nL]); (repeat refine Ai ?_); (try (refine hK _ ?_; clear hK K)); try refine iC ?_)
         refine AE ⟨m.frm.length - (j + 1), by omega, j + 1, by omega, rfl, e2, e3, e5, e6, e7, e8, e9, e10, e11, e12, e14, e15, by rw [hj0]; rfl, by simp only [go_sem, fN, seval, eT, iR, s2], by simp only [go_sem, fN, seval, eT, iR, s3], by simp only [go_sem, fN, seval, eT, iR, s21], by simp only [go_sem, fN, seval, eT, iR, s119], by simp only [go_sem, fN, seval, eT, iR, s115], by simp only [go_sem, fN, seval, eT, iR], ?_⟩
         rw [Af haj, List.map_append]
         simp only [go_sem, fN, seval, eT, iR]
        ·have hj0' : ¬ ((j : Nat) : Int) = 0 := by omega
         have hk2 : m.frm.length = 2 := by omega
         obtain ⟨r, hr⟩ : ∃ r, c / o.length = r := ⟨_, rfl⟩
         have hrl : r < o1.length := by
          rw [hk2, Nat.pow_two] at hcP
          have := Nat.div_lt_of_lt_mul hcP
          omega
         have hdv : (c : Int).tdiv ((o.length : Nat) : Int) = (r : Int) := by rw [QN, hr]
         obtain ⟨t0, ht0⟩ := Ad hrl
         rw [if_neg hj0, hr, List.getD_eq_getElem?_getD, ht0, Option.getD_some] at haj
         repeat' with_reducible first | refine W ?_ | refine Z0 ?_ | ((first | refine Wo fun K hK => ?_ | refine Wp ?_ | refine Wq ?_ | refine Wr ?_); (try simp only [go_sem, fN, seval, eT, iR, e2, e3, e5, e6, e7, e8, e9, e10, e11, e12, e14, e15, e16, s119, s15, s85, hjl, hj0', hol1, hl85, hdv, hn0', ht0, dT, dF, nL]); (repeat refine Ai ?_); (try (refine hK _ ?_; clear hK K)); try refine iC ?_)
         refine AE ⟨m.frm.length - (j + 1), by omega, j + 1, by omega, rfl, e2, e3, e5, e6, e7, e8, e9, e10, e11, e12, e14, e15, rfl, by simp only [go_sem, fN, seval, eT, iR, s2], by simp only [go_sem, fN, seval, eT, iR, s3], by simp only [go_sem, fN, seval, eT, iR, s21], by simp only [go_sem, fN, seval, eT, iR, s119], by simp only [go_sem, fN, seval, eT, iR, s115], by simp only [go_sem, fN, seval, eT, iR], ?_⟩
         rw [Af haj, List.map_append]
         simp only [go_sem, fN, seval, eT, iR]
       ·have hje2 : j = m.frm.length := by omega
        have hat : (Cr o1 o.length m.frm.length c).take j = Cr o1 o.length m.frm.length c := List.take_of_length_le (by rw [Dw]; omega)
        rw [hat] at s85 hl85
        have htg1 : tG m o1 o.length c = .mk m.name (Cr o1 o.length m.frm.length c) := rfl
        have hao := JU (n := o.length) (out := o1) hprl hfl hcP
        have hnar : Ci (tG m o1 o.length c) := .mk (by rw [Dw]; omega) fun x hx => (hokc.ok x (hao x hx)).2
        have cE1 := D3 a ga (by omega) hma (tG m o1 o.length c) hnar
        have cE2 := D3 b gb (by omega) hmb (tG m o1 o.length c) hnar
        have el1 : (a.ends (tG m o1 o.length c)).length ≤ 3 := by rw [Au.ends_length]; omega
        have el2 : (b.ends (tG m o1 o.length c)).length ≤ 3 := by rw [Au.ends_length]; omega
        have cT1 := IY (a.ends (tG m o1 o.length c)) (by omega)
        have cT2 := IY (b.ends (tG m o1 o.length c)) (by omega)
        have hz1 := Ft (a.ends (tG m o1 o.length c))
        have hz2 := Ft (b.ends (tG m o1 o.length c))
        have hkey : A6 (a.ends (tG m o1 o.length c)) ++ ⟨#[124]⟩ ++ A6 (b.ends (tG m o1 o.length c)) = Dq a b (tG m o1 o.length c) := rfl
        have hin := SS (Dq a b (tG m o1 o.length c)) (o1.map (Dq a b))
        have hyes : ML (Dq a b (tG m o1 o.length c)) (o1.map (Dq a b)) = true ↔ EW a b (tG m o1 o.length c) ∈ o1.map (EW a b) := by
         rw [IN, List.mem_map, List.mem_map]
         simp only [Pe]
        have hst1 : CE a b m o.length o1 c = L8 a b o1 (tG m o1 o.length c) := rfl
        rw [hst1] at hsn
        unfold L8 at hsn
        have hzk : (A6 (a.ends (tG m o1 o.length c)) ++ (⟨#[124]⟩ : ByteArray)).size ≤ maxLen := by rw [ByteArray.size_append, hz1, Bu, show (⟨#[124]⟩ : ByteArray).size = 1 from rfl]; omega
        have hzk2 : (Dq a b (tG m o1 o.length c)).size ≤ maxLen := by rw [← hkey, ByteArray.size_append, ByteArray.size_append, hz1, hz2, Bu, show (⟨#[124]⟩ : ByteArray).size = 1 from rfl]; omega
        rw [htg1] at hnar cE1 cE2 el1 el2 cT1 cT2 hz1 hz2 hkey hin hyes hsn hzk hzk2
        generalize Cr o1 o.length m.frm.length c = as_ at *
        obtain ⟨kk, hkk⟩ : ∃ kk, Dq a b (.mk m.name as_) = kk := ⟨_, rfl⟩
        rw [hkk] at hkey hin hyes hzk2
        have hfix : o1.length = (o1.map (Dq a b)).length := (List.length_map _).symm
        by_cases hi : ML kk (o1.map (Dq a b)) = true
        ·rw [hi] at hin
         rw [if_pos (hyes.1 hi)] at hsn
         repeat' (first | (with_reducible first | refine W ?_ | refine Z0 ?_ | ((first | refine Wo fun K hK => ?_ | refine Wp ?_ | refine Wq ?_ | refine Wr ?_); (try simp only [go_sem, fN, seval, eT, iR, e2, e3, e5, e6, e7, e8, e9, e10, e11, e12, e14, e15, e16, s2, s3, s115, s15, s85, hjl, hl85, hkey, hzk, hzk2, AL, dT, dF, nL]); (repeat refine Ai ?_); (try (refine hK _ ?_; clear hK K)); try refine iC ?_)) | refine Cg _ (cE1) ?_ | refine Cg _ (cT1) ?_ | refine Cg _ (cE2) ?_ | refine Cg _ (cT2) ?_ | refine Cg _ (hin) ?_)
         refine AE ⟨P - (c + 1), by omega, c + 1, by omega, rfl, ?_⟩
         simp only [go_sem, fN, seval, AS.drop, AU, AC.clears, AC.clear, AC.highs, AC.high, Bool.not_false, Bool.true_and, Bool.and_self, AV.purge, AV.purges, AC.purge, AH.purge, List.contains_cons, List.contains_nil, Nat.reduceBEq, Bool.or_self, Bool.or_false, Bool.false_or, Bool.or_true, eT, iR, e2, e3, e5, e6, e7, e8, e9, e10, e11, e12, e14, s2, s3, s21, s115, s119, hsn, AL]
         rw [← List.range_succ, hsn]
         exact ⟨rfl, rfl, rfl, rfl, rfl, rfl⟩
        ·have hi' : ML kk (o1.map (Dq a b)) = false := by simpa using hi
         rw [hi'] at hin
         rw [if_neg (fun h => hi (hyes.2 h))] at hsn
         have hkl : ((o1.map (Dq a b)).map JN).length = o1.length := by simp
         repeat' (first | (with_reducible first | refine W ?_ | refine Z0 ?_ | ((first | refine Wo fun K hK => ?_ | refine Wp ?_ | refine Wq ?_ | refine Wr ?_); (try simp only [go_sem, fN, seval, eT, iR, e2, e3, e5, e6, e7, e8, e9, e10, e11, e12, e14, e15, e16, s2, s3, s115, s119, s15, s85, hjl, hl85, hkey, hzk, hzk2, AL, hol1, hkl, dT, dF, nL]); (repeat refine Ai ?_); (try (refine hK _ ?_; clear hK K)); try refine iC ?_)) | refine Cg _ (cE1) ?_ | refine Cg _ (cT1) ?_ | refine Cg _ (cE2) ?_ | refine Cg _ (cT2) ?_ | refine Cg _ (hin) ?_)
         refine AE ⟨P - (c + 1), by omega, c + 1, by omega, rfl, ?_⟩
         simp only [go_sem, fN, seval, AS.drop, AU, AC.clears, AC.clear, AC.highs, AC.high, Bool.not_false, Bool.true_and, Bool.and_self, AV.purge, AV.purges, AC.purge, AH.purge, List.contains_cons, List.contains_nil, Nat.reduceBEq, Bool.or_self, Bool.or_false, Bool.false_or, Bool.or_true, eT, iR, e2, e3, e5, e6, e7, e8, e9, e10, e11, e12, e14, s2, s3, s21, s115, s119, hsn, AL]
         rw [← List.range_succ, hsn, decide_eq_true (p := o0.length < (o1 ++ [Tm.mk m.name as_]).length) (by rw [List.length_append, List.length_singleton]; omega), List.length_append, List.map_append, List.map_append, List.map_append]
         refine ⟨rfl, rfl, rfl, rfl, by simp [CT, Hu], ?_⟩
         rw [List.map_singleton, hkk]
         rfl
      ·have hce : c = P := by omega
       rw [hce] at e5 e6 e8 s119 s115
       repeat' with_reducible first | refine W ?_ | refine Z0 ?_ | ((first | refine Wo fun K hK => ?_ | refine Wp ?_ | refine Wq ?_ | refine Wr ?_); (try simp only [go_sem, fN, seval, eT, iR, e2, e3, e5, e6, e7, e8, e9, e10, e11, e12, e14, hcl, dT, dF, nL]); (repeat refine Ai ?_); (try (refine hK _ ?_; clear hK K)); try refine iC ?_)
       exact AE ⟨ms.length - (k + 1), by omega, k + 1, by omega, rfl, e2, e3, by rw [hfold]; exact e5, by rw [hfold]; exact e6, e7, by rw [hfold]; exact e8, rfl, s2, s3, s21, by rw [hfold]; exact s119, by rw [hfold]; exact s115, s15, s85⟩)
  ·have hke : k = ms.length := by omega
   have hpp := J3 (a := a) (b := b) (ms := ms) o0
   rw [hke, List.take_length] at e5 e6 e8 s119 s115
   rw [show ms.foldl (Bf a b) o0 = itG a b ms (i + 1) from hit2.symm] at e5 e6 e8 s119 s115
   repeat' with_reducible first | refine W ?_ | refine Z0 ?_ | ((first | refine Wo fun K hK => ?_ | refine Wp ?_ | refine Wq ?_ | refine Wr ?_); (try simp only [go_sem, fN, seval, eT, iR, e2, e3, e9, e7, s21, hlt, hMll, dT, dF, nL]); (repeat refine Ai ?_); (try (refine hK _ ?_; clear hK K)); try refine iC ?_)
   refine AE ⟨k0 + 2 - (i + 1), by omega, i + 1, by omega, rfl, e2, e3, e5, e6, e7, s2, s3, s21, s119, s115, ⟨_, e8, fun h => ⟨i, rfl, ?_⟩, fun h => ?_⟩, s15, s85⟩
   ·have h : ¬ o0.length < (itG a b ms (i + 1)).length := by simpa using h
    rw [hit2] at h ⊢
    have := hpp.eq_of_length (by have := hpp.length_le; omega)
    rw [ho0]
    exact this.symm
   ·have h : o0.length < (itG a b ms (i + 1)).length := by simpa using h
    rcases Nat.lt_or_ge i k0 with hlt | hge
    ·exact hlt
    ·exfalso
     have hik2 : i = k0 := by omega
     subst hik2
     rw [hst, ho0] at h
     omega
theorem Nn (a b : Au) (ga : a.Good) (gb : b.Good) (ha : Ak a = true) (hb : Ak b = true) (hma : a.moves.length ≤ 100000) (hmb : b.moves.length ≤ 100000) :
  Ap Try.prog 11 [aAu a, aAu b] (As (Ge a b)) := by
 have hg := Jm a b ga gb ha hb hma hmb
 have hok := EQ (a := a) (b := b) (Cv ha hb).1
 have hw := Iw ha hb
 have ha3 := Aa ha
 have hb3 := Aa hb
 have hl64 := hok.len ha3 hb3
 rw [← hw]
 generalize BT a b (CP a b) = l at *
 refine JS.ac fun C hC => ?_
 unfold FR
 repeat' (first | (with_reducible first | refine W ?_ | refine Z0 ?_ | ((first | refine Wo fun K hK => ?_ | refine Wp ?_ | refine Wq ?_ | refine Wr ?_); (try simp only [go_sem, fN, seval, eT, iR, dT, dF, nL]); (repeat refine Ai ?_); (try (refine hK _ ?_; clear hK K)); try refine iC ?_)) | refine Cg _ (hg) ?_)
 refine IWP.loop (fun q s => ∃ k, k ≤ l.length ∧ q = l.length - k ∧ s.env 2 = .one (.ptr 2 1 0 0) ∧ s.env 3 = .one (.ptr 3 1 0 0) ∧ s.env 5 = LQ l ∧ s.env 6 = AN k ∧ s.S 2 = some (AL a) ∧ s.S 3 = some (AL b) ∧ ((l.take k).all fun t => !(a.acc t && !b.acc t)) = true) l.length
  ⟨0, Nat.zero_le _, rfl, rfl, rfl, by simp only [go_sem, fN, seval, eT, iR], by simp only [go_sem, fN, seval, eT, iR], rfl, rfl, rfl⟩ ?_
 rintro q ⟨env, S⟩ ⟨k, hk, rfl, e2, e3, e5, e6, s2, s3, hall⟩
 simp only at e2 e3 e5 e6 s2 s3
 unfold AL at s2 s3
 have hll : (l.map CT).length = l.length := by simp
 by_cases hlt : (k : Int) < l.length
 ·obtain ⟨t, ht⟩ := Ad (show k < l.length by omega)
  have htm := AR ht
  have c1 := Dc a ga (by omega) hma t (hok.ok t htm).2
  have c2 := Dc b gb (by omega) hmb t (hok.ok t htm).2
  have hsn : ((l.take (k + 1)).all fun t => !(a.acc t && !b.acc t)) = !(a.acc t && !b.acc t) := by
   rw [Af ht, List.all_append, hall]
   simp
  cases h1 : a.acc t with
  | false =>
   rw [h1] at c1 hsn
   repeat' (first | (with_reducible first | refine W ?_ | refine Z0 ?_ | ((first | refine Wo fun K hK => ?_ | refine Wp ?_ | refine Wq ?_ | refine Wr ?_); (try simp only [go_sem, fN, seval, eT, iR, e2, e3, e5, e6, s2, s3, hlt, ht, hll, dT, dF, nL]); (repeat refine Ai ?_); (try (refine hK _ ?_; clear hK K)); try refine iC ?_)) | refine Cg _ (c1) ?_ | refine Cg _ (c2) ?_)
   exact AE ⟨l.length - (k + 1), by omega, k + 1, by omega, rfl, e2, e3, e5, rfl, s2, s3, hsn⟩
  | true =>
   cases h2 : b.acc t with
   | true =>
    rw [h1] at c1
    rw [h2] at c2
    rw [h1, h2] at hsn
    repeat' (first | (with_reducible first | refine W ?_ | refine Z0 ?_ | ((first | refine Wo fun K hK => ?_ | refine Wp ?_ | refine Wq ?_ | refine Wr ?_); (try simp only [go_sem, fN, seval, eT, iR, e2, e3, e5, e6, s2, s3, hlt, ht, hll, dT, dF, nL]); (repeat refine Ai ?_); (try (refine hK _ ?_; clear hK K)); try refine iC ?_)) | refine Cg _ (c1) ?_ | refine Cg _ (c2) ?_)
    exact AE ⟨l.length - (k + 1), by omega, k + 1, by omega, rfl, e2, e3, e5, rfl, s2, s3, hsn⟩
   | false =>
    rw [h1] at c1
    rw [h2] at c2
    have hno : (l.all fun t => !(a.acc t && !b.acc t)) = false := by
     rw [List.all_eq_false]
     exact ⟨t, htm, by rw [h1, h2]; decide⟩
    repeat' (first | (with_reducible first | refine W ?_ | refine Z0 ?_ | ((first | refine Wo fun K hK => ?_ | refine Wp ?_ | refine Wq ?_ | refine Wr ?_); (try simp only [go_sem, fN, seval, eT, iR, e2, e3, e5, e6, s2, s3, hlt, ht, hll, dT, dF, nL]); (repeat refine Ai ?_); (try (refine hK _ ?_; clear hK K)); try refine iC ?_)) | refine Cg _ (c1) ?_ | refine Cg _ (c2) ?_)
    simp only [go_sem, fN, seval, Ab, AS.result, AI, AJ, AW]
    rw [hno]
 ·have hke : k = l.length := by omega
  rw [hke, List.take_length] at hall
  repeat' with_reducible first | refine W ?_ | refine Z0 ?_ | ((first | refine Wo fun K hK => ?_ | refine Wp ?_ | refine Wq ?_ | refine Wr ?_); (try simp only [go_sem, fN, seval, eT, iR, e2, e3, e5, e6, hlt, hll, dT, dF, nL]); (repeat refine Ai ?_); (try (refine hK _ ?_; clear hK K)); try refine iC ?_)
  simp only [go_sem, fN, seval, Ab, AS.result, AI, AJ, AW]
  rw [hall]

section
variable {C : Ctx} {s : AS}
theorem Ae.crow {id : Nat} {e : TypeId} {xs : List SV} (hS : s.S id = some (.mrow e 1 (xs.map ([·])))) (hne : 0 < xs.length) : Ae C s (s.set id (.crow e (xs.map .st))) := fun a w ⟨σ, ι, R⟩ => by
 have hb := R.blk _ _ hS
 generalize hys : xs.map ([·]) = ys at hb hS
 cases hb with
 | mnil h1 h2 =>
  have h0 : (xs.map fun x => [x]).length = 0 := congrArg List.length hys
  rw [List.length_map] at h0
  omega
 | @mrow _ _ _ g vs h1 h2 h3 h4 h5 h6 h7 h8 h9 =>
  subst hys
  rw [List.length_map] at h4
  obtain ⟨hu, R'⟩ := R.turn (w' := w) hS (.crow e (xs.map .st)) (ι id) (σ' := σ) (fun _ _ h => h) (fun _ _ _ => rfl) R.fit (by simp [AH.len]) (fun _ => ⟨rfl, rfl⟩) ⟨rfl, rfl, rfl⟩ (Nat.le_refl _) (fun _ _ _ => rfl) (fun g h => .inl h) (fun hu => by
   refine .crow h1 h2 h3 (by rw [List.length_map]; omega) h5 (AT.of_get (by simp; omega) fun j v c hv hc => ?_) h9
   rw [List.getElem?_map, Option.map_eq_some_iff] at hc
   obtain ⟨x, hx, rfl⟩ := hc
   obtain ⟨v', k1, k2⟩ := h8 j [x] 0 x (by rw [List.getElem?_map, hx]; rfl) rfl
   rw [List.getElem?_take] at hv
   split at hv
   ·have e1 : vs[j]? = some v := by simpa using hv
    rw [show j * 1 + 0 = j by omega, e1] at k1
    cases k1
    exact .st k2
   ·cases hv)
  exact ⟨_, _, R'⟩
end

theorem Ae.renameC {C : Ctx} {s : AS} (A j id nid N : Nat) {e e' : TypeId} {cs : List AC} {wd : Nat} {xs : List (List SV)} (hA : s.S A = some (.crow e' cs)) (hj : cs[j]? = some (.row id xs.length)) (hid : s.S id = some (.mrow e wd xs)) (hn : s.S nid = none) (hN : xs.length < N) :
  Ae C s ⟨s.env, AF (AF (AF s.S id (some (.dead N wd))) nid (some (.mrow e wd xs))) A (some (.crow e' (cs.set j (.row nid xs.length))))⟩ := fun a w ⟨σ, ι, R⟩ => by
 have hne : A ≠ id := fun h => by subst h; rw [hA] at hid; cases hid
 have hne2 : A ≠ nid := fun h => by subst h; rw [hA] at hn; cases hn
 have hni : nid ≠ id := fun h => by subst h; rw [hn] at hid; cases hid
 have hb := R.blk _ _ hid
 have hbb : ∀ S' ι', BL σ S' ι' w (ι id) (.mrow e wd xs) := fun S' ι' => by
  cases hb with
  | mnil h1 h2 => exact .mnil h1 h2
  | mrow h1 h2 h3 h4 h5 h6 h7 h8 h9 => exact .mrow h1 h2 h3 h4 h5 h6 h7 h8 h9
 obtain ⟨hu, R'⟩ := R.move (N := N) (wd := wd) hid hn hN (fun g hg => hg) hbb
 have hbA := R.blk _ _ hA
 cases hbA with
 | @crow _ _ g vs h1 h2 h3 h4 h5 h6 h7 =>
  have hA2 : (AF (AF s.S id (some (.dead N wd))) nid (some (.mrow e wd xs))) A = some (.crow e' cs) := by rw [AD _ hne2, AD _ hne, hA]
  have hιA : AF (AF ι id ⟨none, 0, none⟩) nid (ι id) A = ι A := by rw [AD _ hne2, AD _ hne]
  obtain ⟨hu2, R2⟩ := R'.turn (w' := w) hA2 (.crow e' (cs.set j (.row nid xs.length))) (ι A) (σ' := σ) (fun _ _ h => h) (fun _ _ _ => rfl) R.fit (by simp [AH.len]) (fun _ => ⟨rfl, hιA.symm⟩) ⟨rfl, rfl, rfl⟩ (Nat.le_refl _) (fun _ _ _ => rfl) (fun g h => .inl (by rw [hιA]; exact h)) (fun hu2 => by
   refine .crow h1 h2 h3 (by rw [List.length_set]; exact h4) h5 (AT.of_get (by rw [List.length_set]; exact h6.len) fun k v c hv hc => ?_) h7
   rw [List.length_set] at hv
   rw [List.getElem?_set] at hc
   by_cases hk : j = k
   ·subst hk
    have hl := (List.getElem?_eq_some_iff.1 hj).1
    rw [if_pos rfl, if_pos hl] at hc
    cases hc
    obtain ⟨v', k1, k2⟩ := h6.get hj
    rw [hv] at k1
    cases k1
    obtain ⟨b0, q1, q2, q3, q4⟩ := Jt k2
    rw [hid] at q1
    cases q1
    have hs1 : (AF (AF (AF s.S id (some (.dead N wd))) nid (some (.mrow e wd xs))) A (some (.crow e' (cs.set j (.row nid xs.length))))) nid = some (.mrow e wd xs) := by rw [AD _ hne2.symm, AB]
    refine .row (b := .mrow e wd xs) hs1 (Nat.le_refl _) q3 fun _ => ?_
    rw [AD _ hne2.symm, AB]
    exact q4 rfl
   ·rw [if_neg hk] at hc
    obtain ⟨v', k1, k2⟩ := h6.get hc
    rw [hv] at k1
    cases k1
    exact k2.mono (fun _ _ h => h) (hu.trans hu2))
  exact ⟨_, _, R2⟩

set_option maxHeartbeats 4000000
theorem KC : ∀ (E : List (List Bool)) (x : List Bool), CA (E.map A6) (A6 x) = E.idxOf x
 | [], x => rfl
 | y :: E, x => by
  rw [List.map_cons, CA, List.idxOf_cons, KC E x]
  by_cases e : y = x
  ·subst e; simp
  ·rw [if_neg (fun h => e (E7 h)), beq_false_of_ne e]
   rfl
def Dm (n : Nat) (U : Nat → Nat → Bool) (j : Nat) : List (List SV) := (List.range n).map fun k => [.bool (U j k)]
theorem Ej (n : Nat) (U : Nat → Nat → Bool) (j : Nat) : (Dm n U j).length = n := by simp [Dm]
theorem GW {n : Nat} (U : Nat → Nat → Bool) (j : Nat) {k : Nat} (h : k < n) : (Dm n U j)[k]? = some [.bool (U j k)] := by
 unfold Dm
 rw [List.getElem?_map, List.getElem?_range h]
 rfl
def BS (B n : Nat) : List AC := (List.range n).map fun j => .row (B + j) n
theorem Ep (B n : Nat) : (BS B n).length = n := by simp [BS]
theorem Dk (B : Nat) {n j : Nat} (h : j < n) : (BS B n)[j]? = some (.row (B + j) n) := by
 unfold BS
 rw [List.getElem?_map, List.getElem?_range h]
 rfl
def tmQ (n p : Nat) (x z : Tm) : List Tm := (List.range n).map fun q => if q = p then x else z
theorem F9 (n p : Nat) (x z : Tm) : (tmQ n p x z).length = n := by simp [tmQ]
theorem OQ {n p q : Nat} (x z : Tm) (h : q < n) : (tmQ n p x z)[q]? = some (if q = p then x else z) := by
 unfold tmQ
 rw [List.getElem?_map, List.getElem?_range h]
 rfl
theorem OP {n p : Nat} {x z t : Tm} (h : t ∈ tmQ n p x z) : t = x ∨ t = z := by
 unfold tmQ at h
 obtain ⟨q, _, rfl⟩ := List.mem_map.1 h
 split
 ·exact .inl rfl
 ·exact .inr rfl
theorem LT (a : Au) (nm : ByteArray) (n p : Nat) (x z : Tm) : a.ends (.mk nm (tmQ n p x z)) = a.ending nm (It n p (a.ends x) (a.ends z)) := by
 rw [Au.ends_eq, Au.endsL_eq]
 show a.ending nm ((tmQ n p x z).map a.ends) = _
 congr 1
 unfold tmQ It
 rw [List.map_map]
 refine List.map_congr_left fun q _ => ?_
 show a.ends (if q = p then x else z) = _
 split <;> rfl
abbrev Ki (E : List (List Bool)) : AH := NK (E.map A6)
theorem Qs {E : List (List Bool)} {x : List Bool} (h : E.idxOf x < E.length) : B3 (F3 0 (E.map A6)) (.s (A6 x)) = some (AN ((E.idxOf x : Nat) : Int)) := by
 rw [D1, KC, List.length_map, if_pos h, Nat.zero_add]
abbrev SL (m : Mv) (r n : Nat) : AH := .box 39 [.st (.str m.name), .row r n]
def Ey (a : Au) (l : List Tm) (D A i k : Nat) (S : AA) (s : AS) : Prop :=
 s.env 1 = LQ l ∧ s.env 2 = .one (.mptr D) ∧ s.env 3 = .one (.row A l.length) ∧ s.env 4 = AN i ∧ s.env 5 = AN k ∧ s.env 6 = .one (.ptr 6 1 0 0) ∧ s.S 6 = some (AL a) ∧ ∀ j, 1000 ≤ j → s.S j = S j
theorem Ey.drop {a : Au} {l : List Tm} {D A i k : Nat} {S : AA} {s : AS} (hS : Al S) (hA : 1000 ≤ A) (hD : 1000 ≤ D) (h : Ey a l D A i k S s) : Ey a l D A i k S (s.drop [17, 18, 117, 118]) := by
 obtain ⟨h1, h2, h3, h4, h5, h6, h7, h8⟩ := h
 have hd : ∀ d ∈ [17, 18, 117, 118], d < 1000 := by decide
 refine ⟨?_, ?_, ?_, ?_, ?_, ?_, ?_, fun j hj => ?_⟩
 ·simp [AS.drop, h1, AV.purge, AC.purge]
 ·simp [AS.drop, h2, AV.purge, AC.purge, show ¬ D = 17 by omega, show ¬ D = 18 by omega, show ¬ D = 117 by omega, show ¬ D = 118 by omega]
 ·simp [AS.drop, h3, AV.purge, AC.purge, show ¬ A = 17 by omega, show ¬ A = 18 by omega, show ¬ A = 117 by omega, show ¬ A = 118 by omega]
 ·simp [AS.drop, h4, AV.purge, AC.purge]
 ·simp [AS.drop, h5, AV.purge, AC.purge]
 ·simp [AS.drop, h6, AV.purge, AC.purge]
 ·simp [AS.drop, AU, h7, AL]
  rfl
 ·show (if _ then none else (s.S j).map _) = S j
  rw [CI hd hj, if_neg (by simp), h8 j hj]
  cases hb : S j with
  | none => rfl
  | some b => rw [Option.map_some, AH.purge_high hd (hS j b hb).2]
theorem QG (a : Au) (ga : a.Good) (hsm : Ak a = true) (hm : a.moves.length ≤ 100000) (l : List Tm) (hln : l.length ≤ 64) (hnar : ∀ t ∈ l, Ci t) (hsh : RP a (l.map a.ends)) (U : Nat → Nat → Bool) (i k : Nat) (hi : i < l.length) (hk : k < l.length) (A B D : Nat) (S : AA) (hA : 1000 ≤ A) (hB : 1000 ≤ B) (hD : 1000 ≤ D)
  (sA : S A = some (.crow 55 (BS B l.length))) (sD : S D = some (Ki (l.map a.ends))) (sB : ∀ j, j < l.length → S (B + j) = some (.mrow 4 1 (Dm l.length U j))) :
  BO Try.prog 28 [aAu a, LQ l, .one (.mptr D), .one (.row A l.length), AN i, AN k] S (As (B6 a (l.map a.ends) U i k)) S := by
 refine MS.acS fun hS C hC => ?_
 unfold HJ
 have n6 : S 6 = none := BQ hS (by omega)
 have n17 : S 17 = none := BQ hS (by omega)
 have n18 : S 18 = none := BQ hS (by omega)
 have n117 : S 117 = none := BQ hS (by omega)
 have n118 : S 118 = none := BQ hS (by omega)
 have ha3 := Aa hsm
 have hEl : (l.map a.ends).length = l.length := List.length_map _
 have hll : (l.map CT).length = l.length := List.length_map _
 have hml : (a.moves.map Aj).length = a.moves.length := List.length_map _
 obtain ⟨xi, hxi⟩ := Ad hi
 obtain ⟨xk, hxk⟩ := Ad hk
 have gE : ∀ {j : Nat} {x : Tm}, l[j]? = some x → (l.map a.ends).getD j [] = a.ends x := fun {j x} h => by
  rw [List.getD_eq_getElem?_getD, List.getElem?_map, h]
  rfl
 repeat' with_reducible first | refine W ?_ | refine Z0 ?_ | ((first | refine Wo fun K hK => ?_ | refine Wp ?_ | refine Wq ?_ | refine Wr ?_); (try simp only [go_sem, fN, seval, eT, iR, n6, dT, dF, nL]); (repeat refine Ai ?_); (try (refine hK _ ?_; clear hK K)); try refine iC ?_)
 refine IWP.loopD [17, 18, 117, 118] (fun q s => ∃ j, j ≤ a.moves.length ∧ q = a.moves.length - j ∧ Ey a l D A i k S s ∧ s.env 12 = As false ∧ s.env 13 = AN j ∧ (s.S 17 = none ∧ s.S 18 = none ∧ s.S 117 = none ∧ s.S 118 = none) ∧ ∀ m ∈ a.moves.take j, H3 a (l.map a.ends) U i k m = false) a.moves.length
  ⟨0, Nat.zero_le _, rfl, ⟨rfl, rfl, rfl, rfl, rfl, rfl, by simp only [go_sem, fN, seval, eT, iR]; rfl, fun j hj => by simp [AS.drop, AS.set, AF, show ¬ j = 6 by omega, show ¬ j = 17 by omega, show ¬ j = 18 by omega, show ¬ j = 117 by omega, show ¬ j = 118 by omega]⟩, rfl, rfl, by (simp only [go_sem, fN, seval, eT, iR]; exact ⟨n17, n18, n117, n118⟩), by simp⟩ ?_
 rintro q ⟨env, S1⟩ ⟨j, hj, rfl, ⟨e1, e2, e3, e4, e5, e6, s6, hS1⟩, e12, e13, ⟨s17, s18, s117, s118⟩, hno⟩
 simp only at e1 e2 e3 e4 e5 e6 s6 hS1 e12 e13 s17 s18 s117 s118
 by_cases hjl : (j : Int) < a.moves.length
 ·obtain ⟨m, hmj⟩ := Ad (show j < a.moves.length by omega)
  have hmm := AR hmj
  have hm2 : m.frm.length ≤ 2 := by
   have := hsm
   unfold Ak at this
   simp only [Bool.and_eq_true, List.all_eq_true, decide_eq_true_eq] at this
   exact this.2 m hmm
  have hm2' : ¬ (2 : Int) < m.frm.length := by omega
  have hsn : ∀ (h : H3 a (l.map a.ends) U i k m = false), ∀ x ∈ a.moves.take (j + 1), H3 a (l.map a.ends) U i k x = false := fun h x hx => by
   rw [Af hmj, List.mem_append, List.mem_singleton] at hx
   rcases hx with hx | rfl
   ·exact hno x hx
   ·exact h
  by_cases h0 : m.frm.length = 0
  ·have h0' : ((m.frm.length : Nat) : Int) = 0 := by omega
   repeat' with_reducible first | refine W ?_ | refine Z0 ?_ | ((first | refine Wo fun K hK => ?_ | refine Wp ?_ | refine Wq ?_ | refine Wr ?_); (try simp only [go_sem, fN, seval, eT, iR, e1, e2, e3, e4, e5, e6, s6, e12, e13, AL, hjl, hmj, hml, Aj, h0, h0', dT, dF, nL]); (repeat refine Ai ?_); (try (refine hK _ ?_; clear hK K)); try refine iC ?_)
   refine AE ⟨a.moves.length - (j + 1), by omega, j + 1, by omega, rfl, Ey.drop hS hA hD ⟨e1, e2, e3, e4, e5, e6, s6, hS1⟩, ?_, ?_, ?_, hsn (by unfold H3; rw [h0]; rfl)⟩
   ·simp only [go_sem, fN, seval, AS.drop, AU, AC.clears, AC.clear, AC.highs, AC.high, Bool.not_false, Bool.true_and, Bool.and_self, AV.purge, AV.purges, AC.purge, AH.purge, List.contains_cons, List.contains_nil, Nat.reduceBEq, Bool.or_self, Bool.or_false, Bool.false_or, Bool.or_true, eT, iR, e12]
   ·rfl
   ·simp only [go_sem, fN, seval, AS.drop, AU, AC.clears, AC.clear, AC.highs, AC.high, Bool.not_false, Bool.true_and, Bool.and_self, AV.purge, AV.purges, AC.purge, AH.purge, List.contains_cons, List.contains_nil, Nat.reduceBEq, Bool.or_self, Bool.or_false, Bool.false_or, Bool.or_true, eT, iR, s17, s18, s117, s118]
  ·have h0' : ¬ ((m.frm.length : Nat) : Int) = 0 := by omega
   repeat' with_reducible first | refine W ?_ | refine Z0 ?_ | ((first | refine Wo fun K hK => ?_ | refine Wp ?_ | refine Wq ?_ | refine Wr ?_); (try simp only [go_sem, fN, seval, eT, iR, e1, e2, e3, e4, e5, e6, s6, e12, e13, AL, hjl, hmj, hml, Aj, h0, h0', hm2', dT, dF, nL]); (repeat refine Ai ?_); (try (refine hK _ ?_; clear hK K)); try refine iC ?_)
   refine IWP.loopD [17, 18, 117, 118] (fun q s => ∃ p, p ≤ m.frm.length ∧ q = m.frm.length - p ∧ Ey a l D A i k S s ∧ s.env 12 = As false ∧ s.env 13 = AN j ∧ s.env 14 = AN m.frm.length ∧ s.env 15 = AN p ∧ (s.S 17 = none ∧ s.S 18 = none ∧ s.S 117 = none ∧ s.S 118 = none) ∧ ∀ p' < p, Nz a (l.map a.ends) U i k m p' = false) m.frm.length
    ⟨0, Nat.zero_le _, rfl, ⟨e1, e2, e3, e4, e5, e6, s6, hS1⟩, e12, e13, rfl, rfl, ⟨s17, s18, s117, s118⟩, by omega⟩ ?_
   clear e1 e2 e3 e4 e5 e6 s6 hS1 e12 e13 s17 s18 s117 s118
   rintro q ⟨env, S1⟩ ⟨p, hp, rfl, ⟨e1, e2, e3, e4, e5, e6, s6, hS1⟩, e12, e13, e14, e15, ⟨s17, s18, s117, s118⟩, hnp⟩
   simp only at e1 e2 e3 e4 e5 e6 s6 hS1 e12 e13 e14 e15 s17 s18 s117 s118
   by_cases hpl : (p : Int) < m.frm.length
   ·repeat' with_reducible first | refine W ?_ | refine Z0 ?_ | ((first | refine Wo fun K hK => ?_ | refine Wp ?_ | refine Wq ?_ | refine Wr ?_); (try simp only [go_sem, fN, seval, eT, iR, e1, e2, e3, e4, e5, e6, e12, e13, e14, e15, hpl, dT, dF, nL]); (repeat refine Ai ?_); (try (refine hK _ ?_; clear hK K)); try refine iC ?_)
    refine IWP.loopD [17, 18, 117, 118] (fun q s => ∃ o, o ≤ l.length ∧ q = l.length - o ∧ Ey a l D A i k S s ∧ s.env 12 = As false ∧ s.env 13 = AN j ∧ s.env 14 = AN m.frm.length ∧ s.env 15 = AN p ∧ s.env 16 = AN o ∧ (s.S 17 = none ∧ s.S 18 = none ∧ s.S 117 = none ∧ s.S 118 = none) ∧ ∀ o' < o, U (FP a (l.map a.ends) m p i o') (FP a (l.map a.ends) m p k o') = false) l.length
     ⟨0, Nat.zero_le _, rfl, ⟨e1, e2, e3, e4, e5, e6, s6, hS1⟩, e12, e13, e14, e15, rfl, ⟨s17, s18, s117, s118⟩, by omega⟩ ?_
    clear e1 e2 e3 e4 e5 e6 s6 hS1 e12 e13 e14 e15 s17 s18 s117 s118
    rintro q ⟨env, S1⟩ ⟨o, ho, rfl, ⟨e1, e2, e3, e4, e5, e6, s6, hS1⟩, e12, e13, e14, e15, e16, ⟨s17, s18, s117, s118⟩, hnq⟩
    simp only at e1 e2 e3 e4 e5 e6 s6 hS1 e12 e13 e14 e15 e16 s17 s18 s117 s118
    by_cases hol : (o : Int) < l.length
    ·obtain ⟨xo, hxo⟩ := Ad (show o < l.length by omega)
     repeat' with_reducible first | refine W ?_ | refine Z0 ?_ | ((first | refine Wo fun K hK => ?_ | refine Wp ?_ | refine Wq ?_ | refine Wr ?_); (try simp only [go_sem, fN, seval, eT, iR, e1, e2, e3, e4, e5, e6, s6, e12, e13, e14, e15, e16, s17, s18, AL, hol, hll, hmj, hml, Aj, dT, dF, nL]); (repeat refine Ai ?_); (try (refine hK _ ?_; clear hK K)); try refine iC ?_)
     refine IWP.ghost (Ae.ownCellA (e' := 39) (id := 17) (r := 117) (cs := [.st (.str m.name), .full []]) (e := 39) 1 2 (by simp only [go_sem, fN, seval, eT, iR]) rfl (by simp only [go_sem, fN, seval, eT, iR, s117]) (by decide)) ?_
     refine IWP.ghost (Ae.ownCellA (e' := 39) (id := 18) (r := 118) (cs := [.st (.str m.name), .full []]) (e := 39) 1 2 (by simp only [go_sem, fN, seval, eT, iR]) rfl (by simp only [go_sem, fN, seval, eT, iR, s118]) (by decide)) ?_
     refine IWP.loop (fun q s => ∃ c, c ≤ m.frm.length ∧ q = m.frm.length - c ∧ Ey a l D A i k S s ∧ s.env 12 = As false ∧ s.env 13 = AN j ∧ s.env 14 = AN m.frm.length ∧ s.env 15 = AN p ∧ s.env 16 = AN o ∧ s.env 17 = .one (.ptr 17 1 0 0) ∧ s.env 18 = .one (.ptr 18 1 0 0) ∧ s.env 19 = AN c ∧ s.S 17 = some (SL m 117 c) ∧ s.S 18 = some (SL m 118 c) ∧ s.S 117 = some (.arow 39 2 (((tmQ m.frm.length p xi xo).take c).map CT)) ∧ s.S 118 = some (.arow 39 2 (((tmQ m.frm.length p xk xo).take c).map CT))) m.frm.length
      ⟨0, Nat.zero_le _, rfl, ⟨e1, e2, e3, e4, e5, e6, by simp only [go_sem, fN, seval, eT, iR, s6], fun j hj => by simp only [go_sem, fN, seval, eT, iR]; simp [AS.set, AF, show ¬ j = 17 by omega, show ¬ j = 18 by omega, show ¬ j = 117 by omega, show ¬ j = 118 by omega, hS1 j hj]⟩, e12, e13, e14, e15, e16, rfl, rfl, rfl, by (simp only [go_sem, fN, seval, eT, iR]; rfl), by (simp only [go_sem, fN, seval, eT, iR]; rfl), by simp only [go_sem, fN, seval, eT, iR], by simp only [go_sem, fN, seval, eT, iR]⟩ ?_
     clear e1 e2 e3 e4 e5 e6 s6 hS1 e12 e13 e14 e15 e16 s17 s18 s117 s118
     rintro q ⟨env, S1⟩ ⟨c, hc, rfl, ⟨e1, e2, e3, e4, e5, e6, s6, hS1⟩, e12, e13, e14, e15, e16, e17, e18, e19, s17, s18, s117, s118⟩
     simp only at e1 e2 e3 e4 e5 e6 s6 hS1 e12 e13 e14 e15 e16 e17 e18 e19 s17 s18 s117 s118
     have hl117 : (((tmQ m.frm.length p xi xo).take c).map CT).length = c := by rw [List.length_map, List.length_take, F9]; omega
     have hl118 : (((tmQ m.frm.length p xk xo).take c).map CT).length = c := by rw [List.length_map, List.length_take, F9]; omega
     by_cases hcl : (c : Int) < m.frm.length
     ·have hcl' : c < m.frm.length := by omega
      have g1 := OQ (p := p) xi xo hcl'
      have g2 := OQ (p := p) xk xo hcl'
      by_cases hcp : c = p
      ·subst hcp
       rw [if_pos rfl] at g1 g2
       repeat' with_reducible first | refine W ?_ | refine Z0 ?_ | ((first | refine Wo fun K hK => ?_ | refine Wp ?_ | refine Wq ?_ | refine Wr ?_); (try simp only [go_sem, fN, seval, eT, iR, e1, e2, e3, e4, e5, e6, e12, e13, e14, e15, e16, e17, e18, e19, s17, s18, s117, s118, hcl, hi, hk, hxi, hxk, hll, hl117, hl118, dT, dF, nL]); (repeat refine Ai ?_); (try (refine hK _ ?_; clear hK K)); try refine iC ?_)
       refine AE ⟨m.frm.length - (c + 1), by omega, c + 1, by omega, rfl, ⟨e1, e2, e3, e4, e5, e6, by simp only [go_sem, fN, seval, eT, iR, s6], fun j hj => by simp [AS.set, AF, show ¬ j = 17 by omega, show ¬ j = 18 by omega, show ¬ j = 117 by omega, show ¬ j = 118 by omega, hS1 j hj]⟩, e12, e13, e14, e15, e16, e17, e18, rfl, ?_, ?_, ?_, ?_⟩
       ·simp only [go_sem, fN, seval, eT, iR]
       ·simp only [go_sem, fN, seval, eT, iR]
       ·rw [Af g1, List.map_append]
        simp only [go_sem, fN, seval, eT, iR]
       ·rw [Af g2, List.map_append]
        simp only [go_sem, fN, seval, eT, iR]
      ·have hcp' : ¬ ((c : Nat) : Int) = (p : Int) := by omega
       rw [if_neg hcp] at g1 g2
       have hol2 : o < l.length := by omega
       repeat' with_reducible first | refine W ?_ | refine Z0 ?_ | ((first | refine Wo fun K hK => ?_ | refine Wp ?_ | refine Wq ?_ | refine Wr ?_); (try simp only [go_sem, fN, seval, eT, iR, e1, e2, e3, e4, e5, e6, e12, e13, e14, e15, e16, e17, e18, e19, s17, s18, s117, s118, hcl, hcp', hol, hol2, hxo, hll, hl117, hl118, dT, dF, nL]); (repeat refine Ai ?_); (try (refine hK _ ?_; clear hK K)); try refine iC ?_)
       refine AE ⟨m.frm.length - (c + 1), by omega, c + 1, by omega, rfl, ⟨e1, e2, e3, e4, e5, e6, by simp only [go_sem, fN, seval, eT, iR, s6], fun j hj => by simp [AS.set, AF, show ¬ j = 17 by omega, show ¬ j = 18 by omega, show ¬ j = 117 by omega, show ¬ j = 118 by omega, hS1 j hj]⟩, e12, e13, e14, e15, e16, e17, e18, rfl, ?_, ?_, ?_, ?_⟩
       ·simp only [go_sem, fN, seval, eT, iR]
       ·simp only [go_sem, fN, seval, eT, iR]
       ·rw [Af g1, List.map_append]
        simp only [go_sem, fN, seval, eT, iR]
       ·rw [Af g2, List.map_append]
        simp only [go_sem, fN, seval, eT, iR]
     ·have hce : c = m.frm.length := by omega
      rw [List.take_of_length_le (by rw [F9]; omega)] at s117 s118 hl117 hl118
      have hirr : ¬ (m.frm.length : Int) < m.frm.length := by omega
      have hoo : o < l.length := by omega
      have hpp : p < m.frm.length := by omega
      have hxim := AR hxi
      have hxkm := AR hxk
      have hxom := AR hxo
      have na1 : Ci (.mk m.name (tmQ m.frm.length p xi xo)) := .mk (by rw [F9]; omega) fun t ht => by
       rcases OP ht with rfl | rfl
       ·exact hnar _ hxim
       ·exact hnar _ hxom
      have na2 : Ci (.mk m.name (tmQ m.frm.length p xk xo)) := .mk (by rw [F9]; omega) fun t ht => by
       rcases OP ht with rfl | rfl
       ·exact hnar _ hxkm
       ·exact hnar _ hxom
      have cE1 := D3 a ga (by omega) hm _ na1
      have cE2 := D3 a ga (by omega) hm _ na2
      have el1 : (a.ends (.mk m.name (tmQ m.frm.length p xi xo))).length ≤ 3 := by rw [Au.ends_length]; omega
      have el2 : (a.ends (.mk m.name (tmQ m.frm.length p xk xo))).length ≤ 3 := by rw [Au.ends_length]; omega
      have cT1 := IY (a.ends (.mk m.name (tmQ m.frm.length p xi xo))) (by omega)
      have cT2 := IY (a.ends (.mk m.name (tmQ m.frm.length p xk xo))) (by omega)
      have q1 := hsh m hmm p i o hpp (by rw [hEl]; exact hi) (by rw [hEl]; exact hoo)
      have q2 := hsh m hmm p k o hpp (by rw [hEl]; exact hk) (by rw [hEl]; exact hoo)
      have r1 : FP a (l.map a.ends) m p i o = (l.map a.ends).idxOf (a.ends (.mk m.name (tmQ m.frm.length p xi xo))) := by unfold FP; rw [gE hxi, gE hxo, LT]
      have r2 : FP a (l.map a.ends) m p k o = (l.map a.ends).idxOf (a.ends (.mk m.name (tmQ m.frm.length p xk xo))) := by unfold FP; rw [gE hxk, gE hxo, LT]
      have l1 := Qs (x := a.ends (.mk m.name (tmQ m.frm.length p xi xo))) (by rw [← r1]; exact q1)
      have l2 := Qs (x := a.ends (.mk m.name (tmQ m.frm.length p xk xo))) (by rw [← r2]; exact q2)
      rw [← r1] at l1
      rw [← r2] at l2
      obtain ⟨p1, hp1⟩ : ∃ p1, FP a (l.map a.ends) m p i o = p1 := ⟨_, rfl⟩
      obtain ⟨p2, hp2⟩ : ∃ p2, FP a (l.map a.ends) m p k o = p2 := ⟨_, rfl⟩
      rw [hp1] at l1 q1
      rw [hp2] at l2 q2
      rw [hEl] at q1 q2
      have tA := (hS1 A hA).trans sA
      have tD := (hS1 D hD).trans sD
      have tB := (hS1 (B + p1) (by omega)).trans (sB p1 q1)
      have hcA := Dk B q1
      have hclA := Ep B l.length
      have hrE := GW U p1 q2
      have hrl := Ej l.length U p1
      unfold Ki NK at tD
      cases hv : U p1 p2 with
      | true =>
       have hres : B6 a (l.map a.ends) U i k = true := List.any_eq_true.2 ⟨m, hmm, List.any_eq_true.2 ⟨p, List.mem_range.2 hpp, List.any_eq_true.2 ⟨o, List.mem_range.2 (by rw [hEl]; exact hoo), by rw [hp1, hp2]; exact hv⟩⟩⟩
       repeat' (first | (with_reducible first | refine W ?_ | refine Z0 ?_ | ((first | refine Wo fun K hK => ?_ | refine Wp ?_ | refine Wq ?_ | refine Wr ?_); (try simp only [go_sem, fN, seval, eT, iR, e1, e2, e3, e4, e5, e6, s6, e12, e13, e14, e15, e16, e17, e18, e19, s17, s18, s117, s118, AL, hce, hirr, Nat.lt_irrefl, hl117, hl118, tA, tD, tB, hcA, hclA, hrE, hrl, q1, q2, l1, l2, BR, DP, KV.of, Fb, hv, dT, dF, nL]); (repeat refine Ai ?_); (try (refine hK _ ?_; clear hK K)); try refine iC ?_)) | refine Cg _ (cE1) ?_ | refine Cg _ (cT1) ?_ | refine Cg _ (cE2) ?_ | refine Cg _ (cT2) ?_)
       refine Bv (As true) hS trivial rfl (by rw [hres]; rfl) fun j hj => ?_
       simp [AS.set, AF, hS1 j hj]
      | false =>
       repeat' (first | (with_reducible first | refine W ?_ | refine Z0 ?_ | ((first | refine Wo fun K hK => ?_ | refine Wp ?_ | refine Wq ?_ | refine Wr ?_); (try simp only [go_sem, fN, seval, eT, iR, e1, e2, e3, e4, e5, e6, s6, e12, e13, e14, e15, e16, e17, e18, e19, s17, s18, s117, s118, AL, hce, hirr, Nat.lt_irrefl, hl117, hl118, tA, tD, tB, hcA, hclA, hrE, hrl, q1, q2, l1, l2, BR, DP, KV.of, Fb, hv, dT, dF, nL]); (repeat refine Ai ?_); (try (refine hK _ ?_; clear hK K)); try refine iC ?_)) | refine Cg _ (cE1) ?_ | refine Cg _ (cT1) ?_ | refine Cg _ (cE2) ?_ | refine Cg _ (cT2) ?_)
       refine AE ⟨l.length - (o + 1), by omega, o + 1, by omega, rfl, Ey.drop hS hA hD ⟨e1, e2, e3, e4, e5, e6, s6, hS1⟩, ?_, ?_, ?_, ?_, ?_, ?_, fun o' ho' => ?_⟩
       ·simp only [go_sem, fN, seval, AS.drop, AU, AC.clears, AC.clear, AC.highs, AC.high, Bool.not_false, Bool.true_and, Bool.and_self, AV.purge, AV.purges, AC.purge, AH.purge, List.contains_cons, List.contains_nil, Nat.reduceBEq, Bool.or_self, Bool.or_false, Bool.false_or, Bool.or_true, eT, iR, e12]
       ·simp only [go_sem, fN, seval, AS.drop, AU, AC.clears, AC.clear, AC.highs, AC.high, Bool.not_false, Bool.true_and, Bool.and_self, AV.purge, AV.purges, AC.purge, AH.purge, List.contains_cons, List.contains_nil, Nat.reduceBEq, Bool.or_self, Bool.or_false, Bool.false_or, Bool.or_true, eT, iR, e13]
       ·simp only [go_sem, fN, seval, AS.drop, AU, AC.clears, AC.clear, AC.highs, AC.high, Bool.not_false, Bool.true_and, Bool.and_self, AV.purge, AV.purges, AC.purge, AH.purge, List.contains_cons, List.contains_nil, Nat.reduceBEq, Bool.or_self, Bool.or_false, Bool.false_or, Bool.or_true, eT, iR, e14]
       ·simp only [go_sem, fN, seval, AS.drop, AU, AC.clears, AC.clear, AC.highs, AC.high, Bool.not_false, Bool.true_and, Bool.and_self, AV.purge, AV.purges, AC.purge, AH.purge, List.contains_cons, List.contains_nil, Nat.reduceBEq, Bool.or_self, Bool.or_false, Bool.false_or, Bool.or_true, eT, iR, e15]
       ·rfl
       ·exact ⟨rfl, rfl, rfl, rfl⟩
       ·rcases Nat.lt_or_ge o' o with h | h
        ·exact hnq o' h
        ·rw [show o' = o by omega, hp1, hp2]
         exact hv
    ·have hoe : o = l.length := by omega
     repeat' with_reducible first | refine W ?_ | refine Z0 ?_ | ((first | refine Wo fun K hK => ?_ | refine Wp ?_ | refine Wq ?_ | refine Wr ?_); (try simp only [go_sem, fN, seval, eT, iR, e1, e2, e3, e4, e5, e6, e12, e13, e14, e15, e16, hol, hll, dT, dF, nL]); (repeat refine Ai ?_); (try (refine hK _ ?_; clear hK K)); try refine iC ?_)
     refine AE ⟨m.frm.length - (p + 1), by omega, p + 1, by omega, rfl, Ey.drop hS hA hD ⟨e1, e2, e3, e4, e5, e6, s6, hS1⟩, ?_, ?_, ?_, ?_, ?_, fun p' hp' => ?_⟩
     ·simp only [go_sem, fN, seval, AS.drop, AU, AC.clears, AC.clear, AC.highs, AC.high, Bool.not_false, Bool.true_and, Bool.and_self, AV.purge, AV.purges, AC.purge, AH.purge, List.contains_cons, List.contains_nil, Nat.reduceBEq, Bool.or_self, Bool.or_false, Bool.false_or, Bool.or_true, eT, iR, e12]
     ·simp only [go_sem, fN, seval, AS.drop, AU, AC.clears, AC.clear, AC.highs, AC.high, Bool.not_false, Bool.true_and, Bool.and_self, AV.purge, AV.purges, AC.purge, AH.purge, List.contains_cons, List.contains_nil, Nat.reduceBEq, Bool.or_self, Bool.or_false, Bool.false_or, Bool.or_true, eT, iR, e13]
     ·simp only [go_sem, fN, seval, AS.drop, AU, AC.clears, AC.clear, AC.highs, AC.high, Bool.not_false, Bool.true_and, Bool.and_self, AV.purge, AV.purges, AC.purge, AH.purge, List.contains_cons, List.contains_nil, Nat.reduceBEq, Bool.or_self, Bool.or_false, Bool.false_or, Bool.or_true, eT, iR, e14]
     ·rfl
     ·exact ⟨rfl, rfl, rfl, rfl⟩
     ·rcases Nat.lt_or_ge p' p with h | h
      ·exact hnp p' h
      ·rw [show p' = p by omega]
       unfold Nz
       rw [List.any_eq_false]
       intro o' ho'
       have := List.mem_range.1 ho'
       rw [hEl] at this
       rw [hnq o' (by omega)]
       simp
   ·have hpe : p = m.frm.length := by omega
    repeat' with_reducible first | refine W ?_ | refine Z0 ?_ | ((first | refine Wo fun K hK => ?_ | refine Wp ?_ | refine Wq ?_ | refine Wr ?_); (try simp only [go_sem, fN, seval, eT, iR, e1, e2, e3, e4, e5, e6, e12, e13, e14, e15, hpl, dT, dF, nL]); (repeat refine Ai ?_); (try (refine hK _ ?_; clear hK K)); try refine iC ?_)
    refine AE ⟨a.moves.length - (j + 1), by omega, j + 1, by omega, rfl, Ey.drop hS hA hD ⟨e1, e2, e3, e4, e5, e6, s6, hS1⟩, ?_, ?_, ?_, hsn ?_⟩
    ·simp only [go_sem, fN, seval, AS.drop, AU, AC.clears, AC.clear, AC.highs, AC.high, Bool.not_false, Bool.true_and, Bool.and_self, AV.purge, AV.purges, AC.purge, AH.purge, List.contains_cons, List.contains_nil, Nat.reduceBEq, Bool.or_self, Bool.or_false, Bool.false_or, Bool.or_true, eT, iR, e12]
    ·rfl
    ·exact ⟨rfl, rfl, rfl, rfl⟩
    ·unfold H3
     rw [List.any_eq_false]
     intro p' hp'
     have := List.mem_range.1 hp'
     rw [hnp p' (by omega)]
     simp
 ·have hje : j = a.moves.length := by omega
  rw [hje, List.take_length] at hno
  have hres : B6 a (l.map a.ends) U i k = false := by
   unfold B6
   rw [List.any_eq_false]
   intro m hm
   rw [hno m hm]
   simp
  repeat' with_reducible first | refine W ?_ | refine Z0 ?_ | ((first | refine Wo fun K hK => ?_ | refine Wp ?_ | refine Wq ?_ | refine Wr ?_); (try simp only [go_sem, fN, seval, eT, iR, e1, e2, e3, e4, e5, e6, s6, e12, e13, AL, hjl, hml, dT, dF, nL]); (repeat refine Ai ?_); (try (refine hK _ ?_; clear hK K)); try refine iC ?_)
  refine Bv (As false) hS trivial rfl (by rw [hres]; rfl) fun j hj => ?_
  exact hS1 j hj

def Ef (n : Nat) (f : Nat → Bool) : List (List SV) := (List.range n).map fun k => [.bool (f k)]
theorem RG (n : Nat) (f : Nat → Bool) : (Ef n f).length = n := by simp [Ef]
theorem Q1 {n : Nat} (f : Nat → Bool) {k : Nat} (h : k < n) : (Ef n f)[k]? = some [.bool (f k)] := by
 unfold Ef
 rw [List.getElem?_map, List.getElem?_range h]
 rfl
theorem Ih {n k : Nat} (f : Nat → Bool) (b : Bool) : (Ef n f).set k [.bool b] = Ef n fun x => if x = k then b else f x := by
 refine List.ext_getElem (by simp [Ef]) fun i h1 h2 => ?_
 simp only [Ef, List.getElem_set, List.getElem_map, List.getElem_range]
 by_cases e : k = i
 ·subst e; simp
 ·rw [if_neg e, if_neg (fun h => e h.symm)]
theorem CY {n : Nat} {f g : Nat → Bool} (h : ∀ k, k < n → f k = g k) : Ef n f = Ef n g := by
 unfold Ef
 exact List.map_congr_left fun k hk => by rw [h k (List.mem_range.1 hk)]
theorem M3 (n : Nat) : List.replicate n [SV.bool false] = Ef n fun _ => false := by
 refine List.ext_getElem (by simp [Ef]) fun i h1 h2 => ?_
 simp [Ef]
def BV (n i : Nat) : List AC := (List.range n).map fun j => if j < i then .row (600 + j) n else .st (.list [])
theorem NE (n i : Nat) : (BV n i).length = n := by simp [BV]
theorem Mw {n i : Nat} : (BV n i).set i (.row (600 + i) n) = BV n (i + 1) := by
 refine List.ext_getElem (by simp [BV]) fun j h1 h2 => ?_
 simp only [BV, List.getElem_set, List.getElem_map, List.getElem_range]
 by_cases e : i = j
 ·subst e; simp
 ·rw [if_neg e]
  by_cases h : j < i
  ·rw [if_pos h, if_pos (by omega)]
  ·rw [if_neg h, if_neg (by omega)]
theorem M6 (n : Nat) : BV n n = BS 600 n := by
 unfold BV BS
 exact List.map_congr_left fun j hj => by rw [if_pos (List.mem_range.1 hj)]
theorem Ls (n : Nat) : BV n 0 = (List.replicate n (SV.list [])).map AC.st := by
 refine List.ext_getElem (by simp [BV]) fun i h1 h2 => ?_
 simp [BV]
theorem Lz (n : Nat) : AC.rens up1 (BS 600 n) = BS 1600 n := by
 rw [AC.rens_eq]
 unfold BS
 rw [List.map_map]
 refine List.map_congr_left fun j hj => ?_
 show AC.row (up1 (600 + j)) n = AC.row (1600 + j) n
 rw [show up1 (600 + j) = 1600 + j by unfold up1; omega]
theorem C2 {j m : Nat} (h : m < 600 := by decide) : (600 + j = m) = False := eq_false (by omega)
theorem Gz {j m : Nat} (h : m < 600 := by decide) : (m = 600 + j) = False := eq_false (by omega)
theorem G5 {i j : Nat} : (600 + i = 600 + j) = (i = j) := propext ⟨fun h => by omega, fun h => by omega⟩
theorem Ou {cs : List AC} {k : Nat} {c : AC} (h : k < cs.length) : cs.take k ++ [c] ++ cs.drop (k + 1) = cs.set k c := by
 rw [List.set_eq_take_append_cons_drop, if_pos h]
 simp
theorem K4 (n i : Nat) : (BV n i).map (AC.purge [47]) = BV n i := by
 unfold BV
 rw [List.map_map]
 refine List.map_congr_left fun j hj => ?_
 show (if j < i then AC.row (600 + j) n else AC.st (.list [])).purge [47] = _
 split
 ·show (if ([47] : List Nat).contains (600 + j) = true then AC.any else _) = _
  rw [if_neg (by simp; omega)]
 ·rfl
theorem Re {n i k : Nat} (W0 : Nat → Nat → Bool) (h : ¬ i = k) : (Dm n W0 i).set k [.bool true] = Dm n (Ez W0 i k) i :=
 (Ih (W0 i) true).trans (CY fun x hx => by
  unfold Ez
  by_cases e : x = k
  ·simp [e]
  ·simp [e, h])
theorem RJ {n i k : Nat} (W0 : Nat → Nat → Bool) (h : ¬ k = i) : (Dm n W0 k).set i [.bool true] = Dm n (Ez W0 i k) k :=
 (Ih (W0 k) true).trans (CY fun x hx => by
  unfold Ez
  by_cases e : x = i
  ·simp [e]
  ·simp [e, h])
theorem Rb {n i k j : Nat} (W0 : Nat → Nat → Bool) (h1 : ¬ j = i) (h2 : ¬ j = k) : Dm n W0 j = Dm n (Ez W0 i k) j := CY fun x hx => by simp [Ez, h1, h2]
def KI (a : Au) (l : List Tm) (s : AS) : Prop := s.env 1 = .one (.ptr 1 1 0 0) ∧ s.env 3 = LQ l ∧ s.env 4 = AN l.length ∧ s.env 5 = .one (.mptr 22) ∧ s.env 7 = .one (.row 38 l.length) ∧ s.S 1 = some (AL a) ∧ s.S 22 = some (Ki (l.map a.ends))
def KR (l : List Tm) (U : Nat → Nat → Bool) (s : AS) : Prop := (0 < l.length → s.S 38 = some (.crow 55 (BS 600 l.length))) ∧ ∀ j, j < l.length → s.S (600 + j) = some (.mrow 4 1 (Dm l.length U j))
theorem Oa (a : Au) (ga : a.Good) (hsm : Ak a = true) (hm : a.moves.length ≤ 100000) (T : Nat) (hT : nK a (Ah [a]) (A7 a auZ (Ah [a])) T = CB a (Ah [a]) (A7 a auZ (Ah [a])) T) :
  Ap Try.prog 10 [aAu a] (AN (nK a (Ah [a]) (A7 a auZ (Ah [a])) T : Nat)) := by
 have hz : Ak auZ = true := by decide
 have hg := Jm a auZ ga LX hsm hz hm (by decide)
 have hok := EQ (a := a) (b := auZ) (Cv hsm hz).1
 have ha3 := Aa hsm
 have hln := hok.len ha3 (by decide)
 have H := Fg hsm (E := (BT a auZ (CP a auZ)).map a.ends) rfl
 have hnar := fun t ht => (hok.ok t ht).2
 clear hok
 obtain ⟨l, hl⟩ : ∃ l, BT a auZ (CP a auZ) = l := ⟨_, rfl⟩
 rw [hl] at hg hln H hnar
 have hsh := Kk H
 have hfin := fun U h0 hf hS => Qr H hT (U := U) h0 hf hS
 have hnod := H.nod
 generalize nK a (Ah [a]) (A7 a auZ (Ah [a])) T = res at *
 clear H hT hl
 have hEl : (l.map a.ends).length = l.length := List.length_map _
 have hll : (l.map CT).length = l.length := List.length_map _
 rw [hEl] at hfin
 refine Kc.ac fun C hC => ?_
 unfold GG
 repeat' (first | (with_reducible first | refine W ?_ | refine Z0 ?_ | ((first | refine Wo fun K hK => ?_ | refine Wp ?_ | refine Wq ?_ | refine Wr ?_); (try simp only [go_sem, fN, seval, eT, iR, dT, dF, nL]); (repeat refine Ai ?_); (try (refine hK _ ?_; clear hK K)); try refine iC ?_)) | refine Cg _ (hg) ?_)
 refine IWP.loop (fun q s => ∃ k, k ≤ l.length ∧ q = l.length - k ∧ s.env 1 = .one (.ptr 1 1 0 0) ∧ s.env 3 = LQ l ∧ s.env 4 = AN l.length ∧ s.env 5 = .one (.mptr 22) ∧ s.env 6 = AN k ∧ s.S 1 = some (AL a) ∧ s.S 22 = some (Ki ((l.map a.ends).take k)) ∧ s.S 38 = none ∧ s.S 47 = none ∧ ∀ j, s.S (600 + j) = none) l.length
  ⟨0, Nat.zero_le _, rfl, rfl, by simp only [go_sem, fN, seval, eT, iR], by simp only [go_sem, fN, seval, eT, iR], by simp only [go_sem, fN, seval, eT, iR], rfl, by simp only [go_sem, fN, seval, eT, iR]; rfl, by simp only [go_sem, fN, seval, eT, iR]; rfl, by simp only [go_sem, fN, seval, eT, iR], by simp only [go_sem, fN, seval, eT, iR], fun j => by simp only [go_sem, fN, seval, eT, iR, C2]⟩ ?_
 rintro q ⟨env, S⟩ ⟨k, hk, rfl, e1, e3, e4, e5, e6, s1, s22, s38, s47, s6⟩
 simp only at e1 e3 e4 e5 e6 s1 s22 s38 s47 s6
 by_cases hkl : (k : Int) < l.length
 ·have hkl' : k < l.length := by omega
  obtain ⟨t, ht⟩ := Ad hkl'
  have htm := AR ht
  have cE := D3 a ga (by omega) hm t (hnar t htm)
  have el : (a.ends t).length ≤ 3 := by rw [Au.ends_length]; omega
  have cT := IY (a.ends t) (by omega)
  have hEk : (l.map a.ends)[k]? = some (a.ends t) := by rw [List.getElem?_map, ht]; rfl
  have hnew : ¬ CA (((l.map a.ends).take k).map A6) (A6 (a.ends t)) < (((l.map a.ends).take k).map A6).length := fun h => by
   obtain ⟨x, hx, hxe⟩ := List.mem_map.1 (DY.1 h)
   have hx2 := E7 hxe
   subst hx2
   obtain ⟨j, hj⟩ := List.getElem?_of_mem hx
   rw [List.getElem?_take] at hj
   split at hj
   ·rename_i hjk
    have h1 := hnod.idxOf_getElem j (List.getElem?_eq_some_iff.1 hj).1
    have h2 := hnod.idxOf_getElem k (List.getElem?_eq_some_iff.1 hEk).1
    rw [(List.getElem?_eq_some_iff.1 hj).2] at h1
    rw [(List.getElem?_eq_some_iff.1 hEk).2] at h2
    omega
   ·cases hj
  have hput := Ju hnew
  rw [show GP (((l.map a.ends).take k).map A6) (A6 (a.ends t)) = ((l.map a.ends).take (k + 1)).map A6 by
   rw [Af hEk, List.map_append]
   exact if_neg hnew, List.length_map, List.length_take, hEl, Nat.min_eq_left hk] at hput
  unfold Ki NK at s22
  repeat' (first | (with_reducible first | refine W ?_ | refine Z0 ?_ | ((first | refine Wo fun K hK => ?_ | refine Wp ?_ | refine Wq ?_ | refine Wr ?_); (try simp only [go_sem, fN, seval, eT, iR, e1, e3, e4, e5, e6, s1, s22, AL, hkl, ht, hll, BR, DP, KV.of, hput, dT, dF, nL]); (repeat refine Ai ?_); (try (refine hK _ ?_; clear hK K)); try refine iC ?_)) | refine Cg _ (cE) ?_ | refine Cg _ (cT) ?_)
  refine AE ⟨l.length - (k + 1), by omega, k + 1, by omega, rfl, e1, e3, e4, e5, rfl, s1, by simp only [go_sem, fN, seval, eT, iR], by simp only [go_sem, fN, seval, eT, iR, s38], by simp only [go_sem, fN, seval, eT, iR, s47], fun j => by simp only [go_sem, fN, seval, eT, iR, s6, C2]⟩
 ·have hke : k = l.length := by omega
  rw [hke, List.take_of_length_le (by rw [hEl]; exact Nat.le_refl _)] at s22
  have hz1 : 0 ≤ (l.length : Int) ∧ (l.length : Int).toNat = l.length := by omega
  have b1 : l.length ≤ maxLen := by rw [Bu]; omega
  have b2 : l.length * 24 ≤ 140737488355328 := by omega
  have b4 : l.length * 1 ≤ 140737488355328 := by omega
  repeat' with_reducible first | refine W ?_ | refine Z0 ?_ | ((first | refine Wo fun K hK => ?_ | refine Wp ?_ | refine Wq ?_ | refine Wr ?_); (try simp only [go_sem, fN, seval, eT, iR, e1, e3, e4, e5, e6, hkl, s38, b1, b2, Int.toNat_natCast, dT, dF, nL]); (repeat refine Ai ?_); (try (refine hK _ ?_; clear hK K)); try refine iC ?_)
  refine IWP.at_ (fun env S => env 1 = .one (.ptr 1 1 0 0) ∧ env 3 = LQ l ∧ env 4 = AN l.length ∧ env 5 = .one (.mptr 22) ∧ env 7 = .one (.row 38 l.length) ∧ env 8 = AN 0 ∧ S 1 = some (AL a) ∧ S 22 = some (Ki (l.map a.ends)) ∧ S 38 = some (.mrow 55 1 ((List.replicate l.length (SV.list [])).map ([·]))) ∧ S 47 = none ∧ ∀ j, S (600 + j) = none)
   ⟨e1, e3, e4, e5, by simp only [go_sem, fN, seval, eT, iR], rfl, by simp only [go_sem, fN, seval, eT, iR, s1], by simp only [go_sem, fN, seval, eT, iR, s22], by (simp only [go_sem, fN, seval, eT, iR]; simp), by simp only [go_sem, fN, seval, eT, iR, s47], fun j => by simp only [go_sem, fN, seval, eT, iR, s6, C2]⟩ ?_
  clear e1 e3 e4 e5 e6 s1 s22 s38 s47 s6
  rintro env S ⟨e1, e3, e4, e5, e7, e8, s1, s22, s38, s47, s6⟩
  refine IWP.ghost (s' := ⟨env, if 0 < l.length then AF S 38 (some (.crow 55 (BV l.length 0))) else S⟩) (by
   split
   ·rw [Ls]
    exact Ae.crow (s := ⟨env, S⟩) (id := 38) s38 (by rw [List.length_replicate]; assumption)
   ·exact Ae.refl _ _) ?_
  refine IWP.loopD [47] (fun q s => ∃ i, i ≤ l.length ∧ q = l.length - i ∧ KI a l s ∧ s.env 8 = AN i ∧ (0 < l.length → s.S 38 = some (.crow 55 (BV l.length i))) ∧ s.S 47 = none ∧ (∀ j, j < i → s.S (600 + j) = some (.mrow 4 1 (Dm l.length (U0 a (l.map a.ends)) j))) ∧ ∀ j, i ≤ j → s.S (600 + j) = none) l.length
   ⟨0, Nat.zero_le _, rfl, ⟨e1, e3, e4, e5, e7, ?_, ?_⟩, e8, fun h => ?_, ?_, fun j hj => by omega, fun j hj => ?_⟩ ?_
  ·show (if _ then _ else S) 1 = _
   split
   ·simp only [go_sem, fN, seval, eT, iR, s1]
   ·exact s1
  ·show (if _ then _ else S) 22 = _
   split
   ·simp only [go_sem, fN, seval, eT, iR, s22]
   ·exact s22
  ·show (if _ then _ else S) 38 = _
   rw [if_pos h]
   exact AB _ _ _
  ·show (if _ then _ else S) 47 = _
   split
   ·simp only [go_sem, fN, seval, eT, iR, s47]
   ·exact s47
  ·show (if _ then _ else S) (600 + j) = _
   split
   ·simp only [go_sem, fN, seval, eT, iR, s6, C2]
   ·exact s6 j
  clear e1 e3 e4 e5 e7 e8 s1 s22 s38 s47 s6
  rintro q ⟨env, S⟩ ⟨i, hi, rfl, ⟨e1, e3, e4, e5, e7, s1, s22⟩, e8, s38, s47, s6, s6n⟩
  simp only at e1 e3 e4 e5 e7 e8 s1 s22 s38 s47 s6 s6n
  by_cases hil : (i : Int) < l.length
  ·have hil' : i < l.length := by omega
   replace s38 := s38 (by omega)
   have hcl := NE l.length i
   have hts := Ou (cs := BV l.length i) (k := i) (c := .row 47 l.length) (by rw [hcl]; exact hil')
   repeat' with_reducible first | refine W ?_ | refine Z0 ?_ | ((first | refine Wo fun K hK => ?_ | refine Wp ?_ | refine Wq ?_ | refine Wr ?_); (try simp only [go_sem, fN, seval, eT, iR, e1, e3, e4, e5, e7, e8, s38, s47, hil, hil', hcl, hts, b4, b1, Int.toNat_natCast, dT, dF, nL]); (repeat refine Ai ?_); (try (refine hK _ ?_; clear hK K)); try refine iC ?_)
   have hown : ((BV l.length i).set i (.row 47 l.length))[i]? = some (.row 47 l.length) := List.getElem?_set_self (by rw [hcl]; exact hil')
   have hcl2 : ((BV l.length i).set i (.row 47 l.length)).length = l.length := by rw [List.length_set, hcl]
   obtain ⟨xi, hxi⟩ := Ad hil'
   have hxim := AR hxi
   refine IWP.loop (fun q s => ∃ k, k ≤ l.length ∧ q = l.length - k ∧ KI a l s ∧ s.env 8 = AN i ∧ s.env 9 = AN k ∧ s.S 38 = some (.crow 55 ((BV l.length i).set i (.row 47 l.length))) ∧ s.S 47 = some (.mrow 4 1 (Ef l.length fun x => if x < k then U0 a (l.map a.ends) i x else false)) ∧ (∀ j, j < i → s.S (600 + j) = some (.mrow 4 1 (Dm l.length (U0 a (l.map a.ends)) j))) ∧ ∀ j, i ≤ j → s.S (600 + j) = none) l.length
    ⟨0, Nat.zero_le _, rfl, ⟨e1, e3, e4, e5, e7, by simp only [go_sem, fN, seval, eT, iR, s1], by simp only [go_sem, fN, seval, eT, iR, s22]⟩, e8, rfl, by simp only [go_sem, fN, seval, eT, iR], ?_, fun j hj => by have h := s6 j hj; simp only [go_sem, fN, seval, eT, iR, h, C2], fun j hj => by have h := s6n j hj; simp only [go_sem, fN, seval, eT, iR, h, C2]⟩ ?_
   ·simp only [go_sem, fN, seval, eT, iR]
    have hrf := M3 l.length
    rw [hrf]
    exact congrArg (fun z => AH.mrow 4 1 z) (CY fun x hx => rfl)
   clear e1 e3 e4 e5 e7 e8 s1 s22 s38 s47 s6 s6n
   rintro q ⟨env, S⟩ ⟨k, hk, rfl, ⟨e1, e3, e4, e5, e7, s1, s22⟩, e8, e9, s38, s47, s6, s6n⟩
   simp only at e1 e3 e4 e5 e7 e8 e9 s1 s22 s38 s47 s6 s6n
   have hrl := RG l.length fun x => if x < k then U0 a (l.map a.ends) i x else false
   by_cases hkl : (k : Int) < l.length
   ·have hkl' : k < l.length := by omega
    obtain ⟨xk, hxk⟩ := Ad hkl'
    have hxkm := AR hxk
    have c1 := Dc a ga (by omega) hm xi (hnar xi hxim)
    have c2 := Dc a ga (by omega) hm xk (hnar xk hxkm)
    have hu : U0 a (l.map a.ends) i k = (a.acc xi != a.acc xk) := by
     unfold U0
     rw [List.getD_eq_getElem?_getD, List.getD_eq_getElem?_getD, List.getElem?_map, List.getElem?_map, hxi, hxk]
     rfl
    have hst : (Ef l.length fun x => if x < k then U0 a (l.map a.ends) i x else false).set k [.bool (!(a.acc xi == a.acc xk))] = Ef l.length fun x => if x < k + 1 then U0 a (l.map a.ends) i x else false := by
     rw [Ih, show (!(a.acc xi == a.acc xk)) = U0 a (l.map a.ends) i k from hu.symm]
     refine CY fun x hx => ?_
     by_cases e1 : x = k
     ·rw [if_pos e1, if_pos (by omega), e1]
     ·rw [if_neg e1]
      by_cases e2 : x < k
      ·rw [if_pos e2, if_pos (by omega)]
      ·rw [if_neg e2, if_neg (by omega)]
    have hgt := Q1 (n := l.length) (fun x => if x < k then U0 a (l.map a.ends) i x else false) hkl'
    rw [if_neg (Nat.lt_irrefl k)] at hgt
    unfold AL at s1
    repeat' (first | (with_reducible first | refine W ?_ | refine Z0 ?_ | ((first | refine Wo fun K hK => ?_ | refine Wp ?_ | refine Wq ?_ | refine Wr ?_); (try simp only [go_sem, fN, seval, eT, iR, e1, e3, e4, e5, e7, e8, e9, s1, s38, s47, hil, hil', hkl, hkl', hxi, hxk, hll, hcl2, hown, hrl, hgt, hst, dT, dF, nL]); (repeat refine Ai ?_); (try (refine hK _ ?_; clear hK K)); try refine iC ?_)) | refine Cg _ (c1) ?_ | refine Cg _ (c2) ?_)
    refine AE ⟨l.length - (k + 1), by omega, k + 1, by omega, rfl, ⟨e1, e3, e4, e5, e7, by (simp only [go_sem, fN, seval, eT, iR, s1]; rfl), by simp only [go_sem, fN, seval, eT, iR, s22]⟩, e8, rfl, by simp only [go_sem, fN, seval, eT, iR, s38], by simp only [go_sem, fN, seval, eT, iR], fun j hj => by have h := s6 j hj; simp only [go_sem, fN, seval, eT, iR, h, C2], fun j hj => by have h := s6n j hj; simp only [go_sem, fN, seval, eT, iR, h, C2]⟩
   ·have hke2 : k = l.length := by omega
    have hrow : (Ef l.length fun x => if x < k then U0 a (l.map a.ends) i x else false) = Dm l.length (U0 a (l.map a.ends)) i := CY fun x hx => by rw [if_pos (by omega)]
    rw [hrow] at s47
    have hsi : (Dm l.length (U0 a (l.map a.ends)) i).length = l.length := Ej _ _ _
    refine IWP.ghost (Ae.renameC (s := ⟨env, S⟩) 38 i 47 (600 + i) (l.length + 1) s38 (by rw [hsi]; exact hown) s47 (s6n i (Nat.le_refl _)) (by rw [hsi]; omega)) ?_
    rw [hsi, List.set_set, Mw]
    repeat' with_reducible first | refine W ?_ | refine Z0 ?_ | ((first | refine Wo fun K hK => ?_ | refine Wp ?_ | refine Wq ?_ | refine Wr ?_); (try simp only [go_sem, fN, seval, eT, iR, e1, e3, e4, e5, e7, e8, e9, hkl, dT, dF, nL]); (repeat refine Ai ?_); (try (refine hK _ ?_; clear hK K)); try refine iC ?_)
    refine AE ⟨l.length - (i + 1), by omega, i + 1, by omega, rfl, ⟨?_, ?_, ?_, ?_, ?_, ?_, ?_⟩, ?_, fun _ => ?_, ?_, fun j hj => ?_, fun j hj => ?_⟩
    ·simp only [go_sem, fN, seval, AS.drop, AU, AC.clears, AC.clear, AC.highs, AC.high, Bool.not_false, Bool.true_and, Bool.and_self, AV.purge, AV.purges, AC.purge, AH.purge, List.contains_cons, List.contains_nil, Nat.reduceBEq, Bool.or_self, Bool.or_false, Bool.false_or, Bool.or_true, eT, iR, e1]
    ·simp only [go_sem, fN, seval, AS.drop, AU, AC.clears, AC.clear, AC.highs, AC.high, Bool.not_false, Bool.true_and, Bool.and_self, AV.purge, AV.purges, AC.purge, AH.purge, List.contains_cons, List.contains_nil, Nat.reduceBEq, Bool.or_self, Bool.or_false, Bool.false_or, Bool.or_true, eT, iR, e3]
    ·simp only [go_sem, fN, seval, AS.drop, AU, AC.clears, AC.clear, AC.highs, AC.high, Bool.not_false, Bool.true_and, Bool.and_self, AV.purge, AV.purges, AC.purge, AH.purge, List.contains_cons, List.contains_nil, Nat.reduceBEq, Bool.or_self, Bool.or_false, Bool.false_or, Bool.or_true, eT, iR, e4]
    ·simp only [go_sem, fN, seval, AS.drop, AU, AC.clears, AC.clear, AC.highs, AC.high, Bool.not_false, Bool.true_and, Bool.and_self, AV.purge, AV.purges, AC.purge, AH.purge, List.contains_cons, List.contains_nil, Nat.reduceBEq, Bool.or_self, Bool.or_false, Bool.false_or, Bool.or_true, eT, iR, e5]
    ·simp only [go_sem, fN, seval, AS.drop, AU, AC.clears, AC.clear, AC.highs, AC.high, Bool.not_false, Bool.true_and, Bool.and_self, AV.purge, AV.purges, AC.purge, AH.purge, List.contains_cons, List.contains_nil, Nat.reduceBEq, Bool.or_self, Bool.or_false, Bool.false_or, Bool.or_true, eT, iR, e7]
    ·simp [AS.drop, AU, AF, s1, Gz, AH.purge, AL, AC.purge]
    ·simp [AS.drop, AU, AF, s22, Gz, AH.purge]
    ·rfl
    ·have hp := K4 l.length (i + 1)
     simp [AS.drop, AU, AF, AH.purge, hp]
    ·rfl
    ·by_cases hji : j = i
     ·subst hji
      simp [AS.drop, AU, AF, C2, AH.purge]
     ·have h := s6 j (by omega)
      simp [AS.drop, AU, AF, C2, G5, hji, h, AH.purge]
    ·have h := s6n j (by omega)
     simp [AS.drop, AU, AF, C2, G5, show ¬ j = i by omega, h]
  ·have hie : i = l.length := by omega
   rw [hie, M6] at s38
   rw [hie] at s6
   repeat' with_reducible first | refine W ?_ | refine Z0 ?_ | ((first | refine Wo fun K hK => ?_ | refine Wp ?_ | refine Wq ?_ | refine Wr ?_); (try simp only [go_sem, fN, seval, eT, iR, e1, e3, e4, e5, e7, e8, hil, dT, dF, nL]); (repeat refine Ai ?_); (try (refine hK _ ?_; clear hK K)); try refine iC ?_)
   have hid : GU a (l.map a.ends) id := ⟨fun i k _ _ h => by rw [show i = k from h], fun m _ p i k o _ _ _ _ h => by rw [show i = k from h]⟩
   refine IWP.loop (fun q s => ∃ U mo, q = Gx l.length U + (if mo = true then 1 else 0) ∧ KI a l s ∧ s.env 10 = As mo ∧ KR l U s ∧ (mo = false → J_ a (l.map a.ends) U = U) ∧ leU (U0 a (l.map a.ends)) U ∧ ∀ cls, GU a (l.map a.ends) cls → Snd l.length cls U) (Gx l.length (U0 a (l.map a.ends)) + 1)
    ⟨U0 a (l.map a.ends), true, rfl, ⟨e1, e3, e4, e5, e7, s1, s22⟩, rfl, ⟨s38, s6⟩, by simp, leU.rfl', fun cls hc => by have h := Snd.zero hc; rw [hEl] at h; exact h⟩ ?_
   clear e1 e3 e4 e5 e7 e8 s1 s22 s38 s47 s6 s6n
   rintro q ⟨env, S⟩ ⟨U, mo, rfl, ⟨e1, e3, e4, e5, e7, s1, s22⟩, e10, ⟨s38, s6⟩, hmo, hle, hsnd⟩
   simp only at e1 e3 e4 e5 e7 e10 s1 s22 s38 s6
   cases mo with
   | false =>
    have hf := hfin U hle (hmo rfl) hsnd
    have hFc : ∀ i, (List.range i).countP (Bq U) ≤ i := fun i => by
     have := List.countP_le_length (p := Bq U) (l := List.range i)
     rw [List.length_range] at this
     exact this
    have hFs : ∀ i, (List.range (i + 1)).countP (Bq U) = (List.range i).countP (Bq U) + if Bq U i = true then 1 else 0 := fun i => by
     rw [List.range_succ, List.countP_append, List.countP_singleton]
    have hFf : ∀ i k, (List.range (k + 1)).all (U i) = ((List.range k).all (U i) && U i k) := fun i k => by
     rw [List.range_succ, List.all_append]
     simp
    repeat' with_reducible first | refine W ?_ | refine Z0 ?_ | ((first | refine Wo fun K hK => ?_ | refine Wp ?_ | refine Wq ?_ | refine Wr ?_); (try simp only [go_sem, fN, seval, eT, iR, e1, e3, e4, e5, e7, e10, dT, dF, nL]); (repeat refine Ai ?_); (try (refine hK _ ?_; clear hK K)); try refine iC ?_)
    refine IWP.loop (fun q s => ∃ i, i ≤ l.length ∧ q = l.length - i ∧ KI a l s ∧ KR l U s ∧ s.env 13 = AN ((List.range i).countP (Bq U) : Nat) ∧ s.env 14 = AN i) l.length
     ⟨0, Nat.zero_le _, rfl, ⟨e1, e3, e4, e5, e7, s1, s22⟩, ⟨s38, s6⟩, rfl, rfl⟩ ?_
    clear e1 e3 e4 e5 e7 e10 s1 s22 s38 s6
    rintro q ⟨env, S⟩ ⟨i, hi, rfl, ⟨e1, e3, e4, e5, e7, s1, s22⟩, ⟨s38, s6⟩, e13, e14⟩
    simp only at e1 e3 e4 e5 e7 e13 e14 s1 s22 s38 s6
    by_cases hil : (i : Int) < l.length
    ·have hil' : i < l.length := by omega
     replace s38 := s38 (by omega)
     repeat' with_reducible first | refine W ?_ | refine Z0 ?_ | ((first | refine Wo fun K hK => ?_ | refine Wp ?_ | refine Wq ?_ | refine Wr ?_); (try simp only [go_sem, fN, seval, eT, iR, e1, e3, e4, e5, e7, e13, e14, hil, dT, dF, nL]); (repeat refine Ai ?_); (try (refine hK _ ?_; clear hK K)); try refine iC ?_)
     refine IWP.loop (fun q s => ∃ k, k ≤ i ∧ q = i - k ∧ KI a l s ∧ s.env 13 = AN ((List.range i).countP (Bq U) : Nat) ∧ s.env 14 = AN i ∧ s.env 15 = As ((List.range k).all (U i)) ∧ s.env 16 = AN k ∧ s.S 38 = some (.crow 55 (BS 600 l.length)) ∧ (∀ j, j < l.length → s.S (600 + j) = some (.mrow 4 1 (Dm l.length U j)))) i
      ⟨0, Nat.zero_le _, rfl, ⟨e1, e3, e4, e5, e7, s1, s22⟩, e13, e14, rfl, rfl, s38, s6⟩ ?_
     clear e1 e3 e4 e5 e7 e13 e14 s1 s22 s38 s6
     rintro q ⟨env, S⟩ ⟨k, hk, rfl, ⟨e1, e3, e4, e5, e7, s1, s22⟩, e13, e14, e15, e16, s38, s6⟩
     simp only at e1 e3 e4 e5 e7 e13 e14 e15 e16 s1 s22 s38 s6
     by_cases hkl : (k : Int) < (i : Int)
     ·have hkl' : k < l.length := by omega
      have hci := Dk 600 hil'
      have hcl := Ep 600 l.length
      have hri := s6 i hil'
      have hrl := Ej l.length U i
      have hgt := GW U i hkl'
      cases hall : (List.range k).all (U i) with
      | false =>
       rw [hall] at e15
       repeat' with_reducible first | refine W ?_ | refine Z0 ?_ | ((first | refine Wo fun K hK => ?_ | refine Wp ?_ | refine Wq ?_ | refine Wr ?_); (try simp only [go_sem, fN, seval, eT, iR, e1, e3, e4, e5, e7, e13, e14, e15, e16, hkl, dT, dF, nL]); (repeat refine Ai ?_); (try (refine hK _ ?_; clear hK K)); try refine iC ?_)
       exact AE ⟨i - (k + 1), by omega, k + 1, by omega, rfl, ⟨e1, e3, e4, e5, e7, s1, s22⟩, e13, e14, by rw [hFf, hall]; rfl, rfl, s38, s6⟩
      | true =>
       rw [hall] at e15
       repeat' with_reducible first | refine W ?_ | refine Z0 ?_ | ((first | refine Wo fun K hK => ?_ | refine Wp ?_ | refine Wq ?_ | refine Wr ?_); (try simp only [go_sem, fN, seval, eT, iR, e1, e3, e4, e5, e7, e13, e14, e15, e16, hkl, s38, hil, hil', hkl', hci, hcl, hri, hrl, hgt, dT, dF, nL]); (repeat refine Ai ?_); (try (refine hK _ ?_; clear hK K)); try refine iC ?_)
       exact AE ⟨i - (k + 1), by omega, k + 1, by omega, rfl, ⟨e1, e3, e4, e5, e7, s1, s22⟩, e13, e14, by rw [hFf, hall]; rfl, rfl, s38, s6⟩
     ·have hke2 : k = i := by omega
      have hfst : (List.range k).all (U i) = Bq U i := by rw [hke2]; rfl
      rw [hfst] at e15
      have hc := hFc i
      cases hfi : Bq U i with
      | true =>
       rw [hfi] at e15
       repeat' with_reducible first | refine W ?_ | refine Z0 ?_ | ((first | refine Wo fun K hK => ?_ | refine Wp ?_ | refine Wq ?_ | refine Wr ?_); (try simp only [go_sem, fN, seval, eT, iR, e1, e3, e4, e5, e7, e13, e14, e15, e16, hkl, dT, dF, nL]); (repeat refine Ai ?_); (try (refine hK _ ?_; clear hK K)); try refine iC ?_)
       exact AE ⟨l.length - (i + 1), by omega, i + 1, by omega, rfl, ⟨e1, e3, e4, e5, e7, s1, s22⟩, ⟨fun _ => s38, s6⟩, by rw [hFs, hfi]; rfl, rfl⟩
      | false =>
       rw [hfi] at e15
       repeat' with_reducible first | refine W ?_ | refine Z0 ?_ | ((first | refine Wo fun K hK => ?_ | refine Wp ?_ | refine Wq ?_ | refine Wr ?_); (try simp only [go_sem, fN, seval, eT, iR, e1, e3, e4, e5, e7, e13, e14, e15, e16, hkl, dT, dF, nL]); (repeat refine Ai ?_); (try (refine hK _ ?_; clear hK K)); try refine iC ?_)
       exact AE ⟨l.length - (i + 1), by omega, i + 1, by omega, rfl, ⟨e1, e3, e4, e5, e7, s1, s22⟩, ⟨fun _ => s38, s6⟩, by rw [hFs, hfi]; exact e13, rfl⟩
    ·have hie2 : i = l.length := by omega
     rw [hie2, hf] at e13
     repeat' with_reducible first | refine W ?_ | refine Z0 ?_ | ((first | refine Wo fun K hK => ?_ | refine Wp ?_ | refine Wq ?_ | refine Wr ?_); (try simp only [go_sem, fN, seval, eT, iR, e1, e3, e4, e5, e7, e13, e14, hil, dT, dF, nL]); (repeat refine Ai ?_); (try (refine hK _ ?_; clear hK K)); try refine iC ?_)
     simp only [go_sem, fN, seval, Ab, AS.result, AI, AJ, AW]
   | true =>
    repeat' with_reducible first | refine W ?_ | refine Z0 ?_ | ((first | refine Wo fun K hK => ?_ | refine Wp ?_ | refine Wq ?_ | refine Wr ?_); (try simp only [go_sem, fN, seval, eT, iR, e1, e3, e4, e5, e7, e10, dT, dF, nL]); (repeat refine Ai ?_); (try (refine hK _ ?_; clear hK K)); try refine iC ?_)
    refine IWP.loop (fun q s => ∃ i b V, i ≤ l.length ∧ q = l.length - i ∧ KI a l s ∧ s.env 10 = As b ∧ s.env 11 = AN i ∧ KR l V s ∧ V = (List.range i).foldl (OW a (l.map a.ends)) U ∧ (b = false → V = U) ∧ (b = true → Gx l.length V < Gx l.length U) ∧ leU (U0 a (l.map a.ends)) V ∧ ∀ cls, GU a (l.map a.ends) cls → Snd l.length cls V) l.length
     ⟨0, false, U, Nat.zero_le _, rfl, ⟨e1, e3, e4, e5, e7, s1, s22⟩, rfl, rfl, ⟨s38, s6⟩, rfl, fun _ => rfl, by simp, hle, hsnd⟩ ?_
    clear e1 e3 e4 e5 e7 e10 s1 s22 s38 s6
    rintro q ⟨env, S⟩ ⟨i, b, V, hi, rfl, ⟨e1, e3, e4, e5, e7, s1, s22⟩, e10, e11, ⟨s38, s6⟩, hV, hb1, hb2, hle2, hsnd2⟩
    simp only at e1 e3 e4 e5 e7 e10 e11 s1 s22 s38 s6
    by_cases hil : (i : Int) < l.length
    ·have hil' : i < l.length := by omega
     replace s38 := s38 (by omega)
     repeat' with_reducible first | refine W ?_ | refine Z0 ?_ | ((first | refine Wo fun K hK => ?_ | refine Wp ?_ | refine Wq ?_ | refine Wr ?_); (try simp only [go_sem, fN, seval, eT, iR, e1, e3, e4, e5, e7, e10, e11, hil, dT, dF, nL]); (repeat refine Ai ?_); (try (refine hK _ ?_; clear hK K)); try refine iC ?_)
     refine IWP.loop (fun q s => ∃ k b V2, k ≤ l.length ∧ q = l.length - k ∧ KI a l s ∧ s.env 10 = As b ∧ s.env 11 = AN i ∧ s.env 12 = AN k ∧ s.S 38 = some (.crow 55 (BS 600 l.length)) ∧ (∀ j, j < l.length → s.S (600 + j) = some (.mrow 4 1 (Dm l.length V2 j))) ∧ V2 = (List.range k).foldl (DM a (l.map a.ends) i) V ∧ (b = false → V2 = U) ∧ (b = true → Gx l.length V2 < Gx l.length U) ∧ leU (U0 a (l.map a.ends)) V2 ∧ ∀ cls, GU a (l.map a.ends) cls → Snd l.length cls V2) l.length
      ⟨0, b, V, Nat.zero_le _, rfl, ⟨e1, e3, e4, e5, e7, s1, s22⟩, e10, e11, rfl, s38, s6, rfl, hb1, hb2, hle2, hsnd2⟩ ?_
     clear e1 e3 e4 e5 e7 e10 e11 s1 s22 s38 s6
     rintro q ⟨env, S⟩ ⟨k, b2, W0, hk, rfl, ⟨e1, e3, e4, e5, e7, s1, s22⟩, e10, e11, e12, s38, s6, hW, hb3, hb4, hle3, hsnd3⟩
     simp only at e1 e3 e4 e5 e7 e10 e11 e12 s1 s22 s38 s6
     by_cases hkl : (k : Int) < l.length
     ·have hkl' : k < l.length := by omega
      have hci := Dk 600 hil'
      have hck := Dk 600 hkl'
      have hcl := Ep 600 l.length
      have hri := s6 i hil'
      have hrk := s6 k hkl'
      have hrl := Ej l.length W0 i
      have hrlk := Ej l.length W0 k
      have hgt := GW W0 i hkl'
      have hsn : (List.range (k + 1)).foldl (DM a (l.map a.ends) i) V = DM a (l.map a.ends) i W0 k := by rw [List.range_succ, List.foldl_append, ← hW]; rfl
      cases hu : W0 i k with
      | true =>
       rw [hu] at hgt
       have hsame : DM a (l.map a.ends) i W0 k = W0 := by unfold DM; rw [if_neg (by rw [hu]; simp)]
       repeat' with_reducible first | refine W ?_ | refine Z0 ?_ | ((first | refine Wo fun K hK => ?_ | refine Wp ?_ | refine Wq ?_ | refine Wr ?_); (try simp only [go_sem, fN, seval, eT, iR, e1, e3, e4, e5, e7, e10, e11, e12, s38, hil, hil', hkl, hkl', hci, hcl, hri, hrl, hgt, dT, dF, nL]); (repeat refine Ai ?_); (try (refine hK _ ?_; clear hK K)); try refine iC ?_)
       refine AE ⟨l.length - (k + 1), by omega, k + 1, b2, W0, by omega, rfl, ⟨e1, e3, e4, e5, e7, s1, s22⟩, e10, e11, rfl, s38, s6, by rw [hsn, hsame], hb3, hb4, hle3, hsnd3⟩
      | false =>
       rw [hu] at hgt
       repeat' with_reducible first | refine W ?_ | refine Z0 ?_ | ((first | refine Wo fun K hK => ?_ | refine Wp ?_ | refine Wq ?_ | refine Wr ?_); (try simp only [go_sem, fN, seval, eT, iR, e1, e3, e4, e5, e7, e10, e11, e12, s1, AL, s38, hil, hil', hkl, hkl', hci, hcl, hri, hrl, hgt, dT, dF, nL]); (repeat refine Ai ?_); (try (refine hK _ ?_; clear hK K)); try refine iC ?_)
       have call : ∀ T : AA, (∀ q ∈ (22, Ki (l.map a.ends)) :: (38, AH.crow 55 (BS 600 l.length)) :: (List.range l.length).map (fun j => (600 + j, AH.mrow 4 1 (Dm l.length W0 j))), T q.1 = some q.2) → BO Try.prog 28 [aAu a, LQ l, .one (.mptr (up1 22)), .one (.row (up1 38) l.length), AN i, AN k] (upS T) (As (B6 a (l.map a.ends) W0 i k)) (upS T) := fun T hT => by
        have h22 : T 22 = _ := hT (22, Ki (l.map a.ends)) (by simp)
        have h38 : T 38 = _ := hT (38, AH.crow 55 (BS 600 l.length)) (by simp)
        have h6 : ∀ j, j < l.length → T (600 + j) = some (AH.mrow 4 1 (Dm l.length W0 j)) := fun j hj => hT (600 + j, _) (List.mem_cons_of_mem _ (List.mem_cons_of_mem _ (List.mem_map.2 ⟨j, List.mem_range.2 hj, rfl⟩)))
        refine QG a ga hsm hm l hln hnar hsh W0 i k hil' hkl' (up1 38) 1600 (up1 22) (upS T) (BY _) (by omega) (BY _) ?_ ?_ fun j hj => ?_
        ·rw [Bt, h38]
         exact congrArg (fun z => some (AH.crow 55 z)) (Lz l.length)
        ·rw [Bt, h22]
         rfl
        ·rw [show 1600 + j = up1 (600 + j) by unfold up1; omega, Bt, h6 j hj]
         rfl
       refine ⟨_, (22, Ki (l.map a.ends)) :: (38, AH.crow 55 (BS 600 l.length)) :: (List.range l.length).map (fun j => (600 + j, AH.mrow 4 1 (Dm l.length W0 j))), fun q hq => ?_, call, ?_⟩
       ·rcases List.mem_cons.1 hq with rfl | hq
        ·exact s22
        ·rcases List.mem_cons.1 hq with rfl | hq
         ·exact s38
         ·obtain ⟨j, hj, rfl⟩ := List.mem_map.1 hq
          exact s6 j (List.mem_range.1 hj)
       cases hp : B6 a (l.map a.ends) W0 i k with
       | false =>
        have hsame : DM a (l.map a.ends) i W0 k = W0 := by unfold DM; rw [if_neg (by rw [hp]; simp)]
        repeat' with_reducible first | refine W ?_ | refine Z0 ?_ | ((first | refine Wo fun K hK => ?_ | refine Wp ?_ | refine Wq ?_ | refine Wr ?_); (try simp only [go_sem, fN, seval, eT, iR, e1, e3, e4, e5, e7, e10, e11, e12, s1, AL, s38, hil, hil', hkl, hkl', hci, hcl, hri, hrl, hgt, dT, dF, nL]); (repeat refine Ai ?_); (try (refine hK _ ?_; clear hK K)); try refine iC ?_)
        refine AE ⟨l.length - (k + 1), by omega, k + 1, b2, W0, by omega, rfl, ⟨e1, e3, e4, e5, e7, s1, s22⟩, e10, e11, rfl, s38, s6, by rw [hsn, hsame], hb3, hb4, hle3, hsnd3⟩
       | true =>
        have hset : DM a (l.map a.ends) i W0 k = Ez W0 i k := by unfold DM; rw [if_pos ⟨hu, hp⟩]
        have hik : ¬ i = k := F0 hid hsh (by rw [hEl]; exact hsnd3 id hid) (by rw [hEl]; exact hil') (by rw [hEl]; exact hkl') hp
        have hki : ¬ k = i := fun h => hik h.symm
        have hgtk := GW W0 k hil'
        repeat' with_reducible first | refine W ?_ | refine Z0 ?_ | ((first | refine Wo fun K hK => ?_ | refine Wp ?_ | refine Wq ?_ | refine Wr ?_); (try simp only [go_sem, fN, seval, eT, iR, e1, e3, e4, e5, e7, e10, e11, e12, s1, AL, s38, hil, hil', hkl, hkl', hci, hck, hcl, hri, hrl, hrk, hrlk, hgt, hgtk, C2, Gz, G5, hik, hki, dT, dF, nL]); (repeat refine Ai ?_); (try (refine hK _ ?_; clear hK K)); try refine iC ?_)
        have hcnt : Gx l.length (Ez W0 i k) < Gx l.length U := by
         have h1 := Qw (n := l.length) hil' hkl' hu
         cases b2 with
         | true => have := hb4 rfl; omega
         | false => rw [hb3 rfl] at h1 ⊢; exact h1
        refine AE ⟨l.length - (k + 1), by omega, k + 1, true, Ez W0 i k, by omega, rfl, ⟨e1, e3, e4, e5, e7, by simp only [go_sem, fN, seval, eT, iR, s1, Gz], by simp only [go_sem, fN, seval, eT, iR, s22, Gz]⟩, rfl, e11, rfl, by simp only [go_sem, fN, seval, eT, iR, s38, Gz], fun j hj => ?_, by rw [hsn, hset], fun h => (by cases h), fun _ => hcnt, hle3.trans (Kp _ _ _), fun cls hc => (hsnd3 cls hc).set (F0 hc hsh (by rw [hEl]; exact hsnd3 cls hc) (by rw [hEl]; exact hil') (by rw [hEl]; exact hkl') hp)⟩
        have h6 := s6 j hj
        by_cases hji : j = i
        ·subst hji
         simp only [go_sem, fN, seval, eT, iR, G5, hik]
         rw [Re W0 hik]
        ·by_cases hjk : j = k
         ·subst hjk
          simp only [go_sem, fN, seval, eT, iR, G5]
          rw [RJ W0 hki]
         ·simp only [go_sem, fN, seval, eT, iR, G5, hji, hjk, h6]
          rw [Rb W0 hji hjk]
     ·have hke2 : k = l.length := by omega
      have hrw : (List.range (i + 1)).foldl (OW a (l.map a.ends)) U = W0 := by rw [List.range_succ, List.foldl_append, ← hV, hW, hke2]; show OW a (l.map a.ends) V i = _; unfold OW; rw [hEl]
      repeat' with_reducible first | refine W ?_ | refine Z0 ?_ | ((first | refine Wo fun K hK => ?_ | refine Wp ?_ | refine Wq ?_ | refine Wr ?_); (try simp only [go_sem, fN, seval, eT, iR, e1, e3, e4, e5, e7, e10, e11, e12, hkl, dT, dF, nL]); (repeat refine Ai ?_); (try (refine hK _ ?_; clear hK K)); try refine iC ?_)
      exact AE ⟨l.length - (i + 1), by omega, i + 1, b2, W0, by omega, rfl, ⟨e1, e3, e4, e5, e7, s1, s22⟩, e10, rfl, ⟨fun _ => s38, s6⟩, hrw.symm, hb3, hb4, hle3, hsnd3⟩
    ·have hie2 : i = l.length := by omega
     have hpass : J_ a (l.map a.ends) U = V := by unfold J_; rw [hEl, ← hie2, ← hV]
     repeat' with_reducible first | refine W ?_ | refine Z0 ?_ | ((first | refine Wo fun K hK => ?_ | refine Wp ?_ | refine Wq ?_ | refine Wr ?_); (try simp only [go_sem, fN, seval, eT, iR, e1, e3, e4, e5, e7, e10, e11, hil, dT, dF, nL]); (repeat refine Ai ?_); (try (refine hK _ ?_; clear hK K)); try refine iC ?_)
     refine AE ⟨Gx l.length V + (if b = true then 1 else 0), ?_, V, b, rfl, ⟨e1, e3, e4, e5, e7, s1, s22⟩, e10, ⟨s38, s6⟩, fun h => ?_, hle2, hsnd2⟩
     ·cases b with
      | true => have := hb2 rfl; simp; omega
      | false => rw [hb1 rfl]; simp
     ·rw [hb1 h] at hpass ⊢
      exact hpass

set_option maxRecDepth 100000
def E0 : IR :=
 (.seq (.ops [.i 1 (.box 25 (.t 0)), .i 2 (.mov (.c (.one (.st (.bool false)))))]) (.seq (.seq (.ops [.i 3 (.mov (.n 0))]) (.block 0 (.loop (.seq (.seq (.ops [.m 4 3, .f 5 1 1, .l 6 5, .i 7 (.len false (.t 6)), .i 8 (.bin .lss (.t 4) (.t 7))]) (.cond (.t 8) .skip (.exit 0))) (.seq (.block 1 (.seq (.ops [.f 11 1 1, .l 12 11, .m 13 3, .i 14 (.indexAddr 3 (.t 12) (.t 13)), .f 15 1 14, .l 16 15, .i 17 (.len false (.t 16)), .i 18 (.bin .gtr (.t 17) (.n 2))]) (.cond (.t 18) (.seq (.ops [.i 2 (.mov (.c (.one (.st (.bool false)))))]) .ret) .skip))) (.ops [.m 9 3, .i 10 (.bin .add (.t 9) (.n 1)), .m 3 10])))))) (.seq (.ops [.f 19 0 1, .l 20 19, .i 21 (.bin .leq (.t 20) (.n 3)), .m 2 21]) .ret)))
theorem IB : OkF Try.prog 9 22 [] E0 [.t 2] := .of Try.func9 rfl rfl (by kernel_rfl) rfl

theorem Ev (a : Au) (hm : a.moves.length ≤ 100000) (hf : ∀ m ∈ a.moves, m.frm.length ≤ 100000) : Ap Try.prog 9 [aAu a] (As (Ak a)) := by
 refine IB.ac fun C hC => ?_
 unfold E0
 repeat' with_reducible first | refine W ?_ | refine Z0 ?_ | ((first | refine Wo fun K hK => ?_ | refine Wp ?_ | refine Wq ?_ | refine Wr ?_); (try simp only [go_sem, fN, seval, eT, iR, dT, dF, nL]); (repeat refine Ai ?_); (try (refine hK _ ?_; clear hK K)); try refine iC ?_)
 refine IWP.loop (fun q s => ∃ i, i ≤ a.moves.length ∧ q = a.moves.length - i ∧ (a.moves.take i).all (fun m => decide (m.frm.length ≤ 2)) = true ∧ s.env 1 = .one (.ptr 1 1 0 0) ∧ s.env 3 = AN i ∧ s.S 1 = some (AL a)) a.moves.length ⟨0, Nat.zero_le _, rfl, rfl, rfl, rfl, rfl⟩ ?_
 rintro q ⟨env, S⟩ ⟨i, hi, rfl, hai, e1, e3, s1⟩
 simp only at e1 e3 s1
 by_cases hil : (i : Int) < a.moves.length
 ·obtain ⟨m, hmi⟩ := Ad (show i < a.moves.length by omega)
  have hmm := AR hmi
  have hfm := hf m hmm
  have hsn2 : (a.moves.take (i + 1)).all (fun m => decide (m.frm.length ≤ 2)) = decide (m.frm.length ≤ 2) := CZ hmi hai
  by_cases h2 : (2 : Int) < m.frm.length
  ·have hb : Ak a = false := by
    unfold Ak
    rw [IS hmm (p := fun m => decide (m.frm.length ≤ 2)) (decide_eq_false (by omega))]
    simp
   rw [hb]
   have h2' : 2 < m.frm.length := by omega
   repeat' with_reducible first | refine W ?_ | refine Z0 ?_ | ((first | refine Wo fun K hK => ?_ | refine Wp ?_ | refine Wq ?_ | refine Wr ?_); (try simp only [go_sem, fN, seval, eT, iR, e1, e3, s1, AL, hil, hmi, Aj, h2, h2', dT, dF, nL]); (repeat refine Ai ?_); (try (refine hK _ ?_; clear hK K)); try refine iC ?_)
   simp only [go_sem, fN, seval, Ab, AS.result, AI, AJ, AW]
  ·have h2' : ¬ 2 < m.frm.length := by omega
   repeat' with_reducible first | refine W ?_ | refine Z0 ?_ | ((first | refine Wo fun K hK => ?_ | refine Wp ?_ | refine Wq ?_ | refine Wr ?_); (try simp only [go_sem, fN, seval, eT, iR, e1, e3, s1, AL, hil, hmi, Aj, h2, h2', dT, dF, nL]); (repeat refine Ai ?_); (try (refine hK _ ?_; clear hK K)); try refine iC ?_)
   refine AE ⟨a.moves.length - (i + 1), by omega, i + 1, by omega, rfl, by rw [hsn2]; exact decide_eq_true (by omega), e1, rfl, s1⟩
 ·have hie : i = a.moves.length := by omega
  rw [hie, List.take_length] at hai
  have hb : Ak a = decide (a.states ≤ 3) := by
   unfold Ak
   rw [hai, Bool.and_true]
  rw [hb]
  repeat' with_reducible first | refine W ?_ | refine Z0 ?_ | ((first | refine Wo fun K hK => ?_ | refine Wp ?_ | refine Wq ?_ | refine Wr ?_); (try simp only [go_sem, fN, seval, eT, iR, e1, e3, s1, AL, hil, dT, dF, nL]); (repeat refine Ai ?_); (try (refine hK _ ?_; clear hK K)); try refine iC ?_)
  simp only [go_sem, fN, seval, Ab, AS.result, AI, AJ, AW]

theorem PH (a : Au) (h : a.may 8 40 ≠ 0) : Ap Try.prog 13 [aAu a] (.tup [AN 0, AN (a.may 8 40)]) := by
 have cC := DF a
 refine Dn.acT fun C hC htop => ?_
 unfold Cp
 repeat' (first | (with_reducible first | refine W ?_ | refine Z0 ?_ | ((first | refine Wo fun K hK => ?_ | refine Wp ?_ | refine Wq ?_ | refine Wr ?_); (try simp only [go_sem, fN, seval, eT, iR, h, dT, dF, nL]); (repeat refine Ai ?_); (try (refine hK _ ?_; clear hK K)); try refine iC ?_)) | refine Cg _ (cC) ?_)
 simp only [go_sem, fN, seval, Ab, AS.result, AI, AJ, AW]
theorem O_ (a : Au) (h : a.may 8 40 = 0) (hs : Ak a = false) : Ap Try.prog 13 [aAu a] (.tup [AN 0, AN 3]) := by
 obtain ⟨a1, a2⟩ := Cf h
 have cC := DF a
 rw [h] at cC
 have cS := K_ [a] (by simp) (fun c hc => by rw [List.mem_singleton.1 hc]; omega) (fun c hc m hm => by rw [List.mem_singleton.1 hc] at hm; have := a2 m hm; omega)
 rw [show CW [a] = 3 from if_neg (by simp [hs])] at cS
 refine Dn.acT fun C hC htop => ?_
 unfold Cp
 repeat' (first | (with_reducible first | refine W ?_ | refine Z0 ?_ | ((first | refine Wo fun K hK => ?_ | refine Wp ?_ | refine Wq ?_ | refine Wr ?_); (try simp only [go_sem, fN, seval, eT, iR, dT, dF, nL]); (repeat refine Ai ?_); (try (refine hK _ ?_; clear hK K)); try refine iC ?_)) | refine Cg _ (cC) ?_ | refine Cg _ (cS) ?_)
 simp only [go_sem, fN, seval, Ab, AS.result, AI, AJ, AW]
theorem LZ (a b : Au) : Ap Try.prog 3 [aAu a, aAu b] (As true) := by
 by_cases q1 : a.huge = true
 ·refine Ar.ac fun C hC => ?_
  unfold An
  repeat' (first | (with_reducible first | refine W ?_ | refine Z0 ?_ | ((first | refine Wo fun K hK => ?_ | refine Wp ?_ | refine Wq ?_ | refine Wr ?_); (try simp only [go_sem, fN, seval, eT, iR, q1, dT, dF, nL]); (repeat refine Ai ?_); (try (refine hK _ ?_; clear hK K)); try refine iC ?_)) | refine Cg _ (Ag a) ?_)
  simp only [go_sem, fN, seval, Ab, AS.result, AI, AJ, AW]
 by_cases q2 : b.huge = true
 ·refine Ar.ac fun C hC => ?_
  unfold An
  repeat' (first | (with_reducible first | refine W ?_ | refine Z0 ?_ | ((first | refine Wo fun K hK => ?_ | refine Wp ?_ | refine Wq ?_ | refine Wr ?_); (try simp only [go_sem, fN, seval, eT, iR, q1, q2, dT, dF, nL]); (repeat refine Ai ?_); (try (refine hK _ ?_; clear hK K)); try refine iC ?_)) | refine Cg _ (Ag a) ?_ | refine Cg _ (Ag b) ?_)
  simp only [go_sem, fN, seval, Ab, AS.result, AI, AJ, AW]
 have hl : ∀ {c : Au}, ¬ c.huge = true → c.last.length ≤ 100 := fun {c} q => by
  simp only [Au.huge, Bool.or_eq_true, decide_eq_true_eq, not_or] at q
  omega
 have hla := hl q1
 have hlb := hl q2
 have hW := Mt a b (by omega) (by omega)
 have cM := J8 a 8 40
 have cMb := J8 b 8 40
 by_cases he : a.may 8 40 = 0
 case neg =>
  have hp : BN a b = a.may 8 40 := by unfold BN; rw [if_neg he]
  have hL := PH a he
  unfold Dh at hW
  rw [if_pos (by rw [hp]; exact he), hp] at hW
  refine Ar.ac fun C hC => ?_
  unfold An
  repeat' (first | (with_reducible first | refine W ?_ | refine Z0 ?_ | ((first | refine Wo fun K hK => ?_ | refine Wp ?_ | refine Wq ?_ | refine Wr ?_); (try simp only [go_sem, fN, seval, eT, iR, q1, q2, he, dT, dF, nL]); (repeat refine Ai ?_); (try (refine hK _ ?_; clear hK K)); try refine iC ?_)) | refine Cg _ (Ag a) ?_ | refine Cg _ (Ag b) ?_ | refine Cg _ (cM) ?_ | refine Cg _ (hW) ?_ | refine Cg _ (hL) ?_)
  simp only [go_sem, fN, seval, Ab, AS.result, AI, AJ, AW]
 obtain ⟨a1, a2⟩ := Cf he
 have hSa := Ev a (by omega) (fun m hm => by have := a2 m hm; omega)
 rw [he] at cM
 cases hsa : Ak a with
 | false =>
  have hL := O_ a he hsa
  rw [hsa] at hSa
  by_cases hf : b.may 8 40 = 0
  case neg =>
   have hp : BN a b = b.may 8 40 := by unfold BN; rw [if_pos he]
   unfold Dh at hW
   rw [if_pos (by rw [hp]; exact hf), hp] at hW
   refine Ar.ac fun C hC => ?_
   unfold An
   repeat' (first | (with_reducible first | refine W ?_ | refine Z0 ?_ | ((first | refine Wo fun K hK => ?_ | refine Wp ?_ | refine Wq ?_ | refine Wr ?_); (try simp only [go_sem, fN, seval, eT, iR, q1, q2, hf, dT, dF, nL]); (repeat refine Ai ?_); (try (refine hK _ ?_; clear hK K)); try refine iC ?_)) | refine Cg _ (Ag a) ?_ | refine Cg _ (Ag b) ?_ | refine Cg _ (cM) ?_ | refine Cg _ (cMb) ?_ | refine Cg _ (hSa) ?_ | refine Cg _ (hW) ?_ | refine Cg _ (hL) ?_)
   simp only [go_sem, fN, seval, Ab, AS.result, AI, AJ, AW]
  case pos =>
   have hp : BN a b = 0 := by unfold BN; rw [if_pos he, hf]
   have hsm : CW [a, b] = 3 := if_neg (by simp [hsa])
   unfold Dh at hW
   rw [if_neg (by rw [hp]; simp), if_pos (by rw [hsm]; decide), hsm] at hW
   rw [hf] at cMb
   refine Ar.ac fun C hC => ?_
   unfold An
   repeat' (first | (with_reducible first | refine W ?_ | refine Z0 ?_ | ((first | refine Wo fun K hK => ?_ | refine Wp ?_ | refine Wq ?_ | refine Wr ?_); (try simp only [go_sem, fN, seval, eT, iR, q1, q2, dT, dF, nL]); (repeat refine Ai ?_); (try (refine hK _ ?_; clear hK K)); try refine iC ?_)) | refine Cg _ (Ag a) ?_ | refine Cg _ (Ag b) ?_ | refine Cg _ (cM) ?_ | refine Cg _ (cMb) ?_ | refine Cg _ (hSa) ?_ | refine Cg _ (hW) ?_ | refine Cg _ (hL) ?_)
   simp only [go_sem, fN, seval, Ab, AS.result, AI, AJ, AW]
 | true =>
  rw [hsa] at hSa
  by_cases h12 : 12 < a.moves.length
  ·have h12' : (12 : Int) < a.moves.length := by omega
   have hml : (a.moves.map Aj).length = a.moves.length := List.length_map _
   by_cases hf : b.may 8 40 = 0
   ·rw [hf] at cMb
    obtain ⟨b1, b2⟩ := Cf hf
    have hSb := Ev b (by omega) (fun m hm => by have := b2 m hm; omega)
    cases hsb : Ak b with
    | true =>
     rw [hsb] at hSb
     refine Ar.ac fun C hC => ?_
     unfold An
     repeat' (first | (with_reducible first | refine W ?_ | refine Z0 ?_ | ((first | refine Wo fun K hK => ?_ | refine Wp ?_ | refine Wq ?_ | refine Wr ?_); (try simp only [go_sem, fN, seval, eT, iR, q1, q2, h12', hml, dT, dF, nL]); (repeat refine Ai ?_); (try (refine hK _ ?_; clear hK K)); try refine iC ?_)) | refine Cg _ (Ag a) ?_ | refine Cg _ (Ag b) ?_ | refine Cg _ (cM) ?_ | refine Cg _ (cMb) ?_ | refine Cg _ (hSa) ?_ | refine Cg _ (hSb) ?_)
     simp only [go_sem, fN, seval, Ab, AS.result, AI, AJ, AW]
    | false =>
     rw [hsb] at hSb
     refine Ar.ac fun C hC => ?_
     unfold An
     repeat' (first | (with_reducible first | refine W ?_ | refine Z0 ?_ | ((first | refine Wo fun K hK => ?_ | refine Wp ?_ | refine Wq ?_ | refine Wr ?_); (try simp only [go_sem, fN, seval, eT, iR, q1, q2, h12', hml, dT, dF, nL]); (repeat refine Ai ?_); (try (refine hK _ ?_; clear hK K)); try refine iC ?_)) | refine Cg _ (Ag a) ?_ | refine Cg _ (Ag b) ?_ | refine Cg _ (cM) ?_ | refine Cg _ (cMb) ?_ | refine Cg _ (hSa) ?_ | refine Cg _ (hSb) ?_)
     simp only [go_sem, fN, seval, Ab, AS.result, AI, AJ, AW]
   ·refine Ar.ac fun C hC => ?_
    unfold An
    repeat' (first | (with_reducible first | refine W ?_ | refine Z0 ?_ | ((first | refine Wo fun K hK => ?_ | refine Wp ?_ | refine Wq ?_ | refine Wr ?_); (try simp only [go_sem, fN, seval, eT, iR, q1, q2, h12', hml, hf, dT, dF, nL]); (repeat refine Ai ?_); (try (refine hK _ ?_; clear hK K)); try refine iC ?_)) | refine Cg _ (Ag a) ?_ | refine Cg _ (Ag b) ?_ | refine Cg _ (cM) ?_ | refine Cg _ (cMb) ?_ | refine Cg _ (hSa) ?_)
    simp only [go_sem, fN, seval, Ab, AS.result, AI, AJ, AW]
  have h12' : ¬ (12 : Int) < a.moves.length := by omega
  have hml : (a.moves.map Aj).length = a.moves.length := List.length_map _
  have ga := Au.may_good he
  have hs2 := (Fg hsa (E := _) rfl).two
  have h64 := (Fg hsa (E := _) rfl).le
  obtain ⟨T, hT1, hT, hmin⟩ := Q8 (a := a) (syms := Ah [a]) h64
  have hL := RQ a he hsa (by omega) T hT hmin
  have hO := Oa a ga hsa (by omega) T hT
  have hn65 : nK a (Ah [a]) (A7 a auZ (Ah [a])) T ≤ 64 := Nat.le_trans DI h64
  generalize nK a (Ah [a]) (A7 a auZ (Ah [a])) T = res at *
  by_cases hf : b.may 8 40 = 0
  case neg =>
   have hp : BN a b = b.may 8 40 := by unfold BN; rw [if_pos he]
   unfold Dh at hW
   rw [if_pos (by rw [hp]; exact hf), hp] at hW
   refine Ar.ac fun C hC => ?_
   unfold An
   repeat' (first | (with_reducible first | refine W ?_ | refine Z0 ?_ | ((first | refine Wo fun K hK => ?_ | refine Wp ?_ | refine Wq ?_ | refine Wr ?_); (try simp only [go_sem, fN, seval, eT, iR, q1, q2, h12', hml, hf, dT, dF, nL]); (repeat refine Ai ?_); (try (refine hK _ ?_; clear hK K)); try refine iC ?_)) | refine Cg _ (Ag a) ?_ | refine Cg _ (Ag b) ?_ | refine Cg _ (cM) ?_ | refine Cg _ (cMb) ?_ | refine Cg _ (hSa) ?_ | refine Cg _ (hO) ?_ | refine Cg _ (hW) ?_ | refine Cg _ (hL) ?_)
   simp only [go_sem, fN, seval, Ab, AS.result, AI, AJ, AW]
  case pos =>
   have hp : BN a b = 0 := by unfold BN; rw [if_pos he, hf]
   rw [hf] at cMb
   obtain ⟨b1, b2⟩ := Cf hf
   have hSb := Ev b (by omega) (fun m hm => by have := b2 m hm; omega)
   cases hsb : Ak b with
   | false =>
    rw [hsb] at hSb
    have hsm : CW [a, b] = 3 := if_neg (by simp [hsb])
    unfold Dh at hW
    rw [if_neg (by rw [hp]; simp), if_pos (by rw [hsm]; decide), hsm] at hW
    refine Ar.ac fun C hC => ?_
    unfold An
    repeat' (first | (with_reducible first | refine W ?_ | refine Z0 ?_ | ((first | refine Wo fun K hK => ?_ | refine Wp ?_ | refine Wq ?_ | refine Wr ?_); (try simp only [go_sem, fN, seval, eT, iR, q1, q2, h12', hml, dT, dF, nL]); (repeat refine Ai ?_); (try (refine hK _ ?_; clear hK K)); try refine iC ?_)) | refine Cg _ (Ag a) ?_ | refine Cg _ (Ag b) ?_ | refine Cg _ (cM) ?_ | refine Cg _ (cMb) ?_ | refine Cg _ (hSa) ?_ | refine Cg _ (hSb) ?_ | refine Cg _ (hO) ?_ | refine Cg _ (hW) ?_ | refine Cg _ (hL) ?_)
    simp only [go_sem, fN, seval, Ab, AS.result, AI, AJ, AW]
   | true =>
    rw [hsb] at hSb
    have hsm : CW [a, b] = 0 := if_pos (by simp [hsa, hsb])
    unfold Dh at hW
    rw [if_neg (by rw [hp]; simp), if_neg (by rw [hsm]; simp)] at hW
    have hmlb : (b.moves.map Aj).length = b.moves.length := List.length_map _
    have gb := Au.may_good hf
    have hWO := Nn a b ga gb hsa hsb (by omega) (by omega)
    by_cases h12b : 12 < b.moves.length
    ·have h12b' : (12 : Int) < b.moves.length := by omega
     refine Ar.ac fun C hC => ?_
     unfold An
     repeat' (first | (with_reducible first | refine W ?_ | refine Z0 ?_ | ((first | refine Wo fun K hK => ?_ | refine Wp ?_ | refine Wq ?_ | refine Wr ?_); (try simp only [go_sem, fN, seval, eT, iR, q1, q2, h12', hml, h12b', hmlb, dT, dF, nL]); (repeat refine Ai ?_); (try (refine hK _ ?_; clear hK K)); try refine iC ?_)) | refine Cg _ (Ag a) ?_ | refine Cg _ (Ag b) ?_ | refine Cg _ (cM) ?_ | refine Cg _ (cMb) ?_ | refine Cg _ (hSa) ?_ | refine Cg _ (hSb) ?_)
     simp only [go_sem, fN, seval, Ab, AS.result, AI, AJ, AW]
    ·have h12b' : ¬ (12 : Int) < b.moves.length := by omega
     refine Ar.ac fun C hC => ?_
     unfold An
     repeat' (first | (with_reducible first | refine W ?_ | refine Z0 ?_ | ((first | refine Wo fun K hK => ?_ | refine Wp ?_ | refine Wq ?_ | refine Wr ?_); (try simp only [go_sem, fN, seval, eT, iR, q1, q2, h12', hml, h12b', hmlb, dT, dF, nL]); (repeat refine Ai ?_); (try (refine hK _ ?_; clear hK K)); try refine iC ?_)) | refine Cg _ (Ag a) ?_ | refine Cg _ (Ag b) ?_ | refine Cg _ (cM) ?_ | refine Cg _ (cMb) ?_ | refine Cg _ (hSa) ?_ | refine Cg _ (hSb) ?_ | refine Cg _ (hO) ?_ | refine Cg _ (hWO) ?_ | refine Cg _ (hW) ?_ | refine Cg _ (hL) ?_)
     simp only [go_sem, fN, seval, Ab, AS.result, AI, AJ, AW]

open Go.ChangeShapes Go.WideShapes Go.ChangeAt
section
variable {H : Type} {enc : TypeId × Value → H} {P : Program}
theorem Fe (hl : laidOutB P = true) : ∀ {ts : List TypeId} {vs : List Value} {ds : List (DataW H)} {ps : List MemPlace} {W W' : World} {sp : Nat → Bool},
  (∀ t ∈ ts, P.readableRec t = true ∧ t < P.types.size) → DataW.TrodAll enc P W 0 (fun _ => true) true ts vs ds ps → (∀ p ∈ ps, W.sameAt W' p) → (∀ p ∈ ps, sp p.block = true) → DataW.TrodAll enc P W' 0 sp true ts vs ds ps
 | [], [], [], _, _, _, _, _, h, _, _ => h
 | _ :: _, _ :: _, _ :: _, _, _, _, _, hT, ⟨p, q, h1, h2, e⟩, hsame, hs => ⟨p, q, WideElems.Trod_stays hl (hT _ (List.mem_cons.2 (Or.inl rfl))).1 (hT _ (List.mem_cons.2 (Or.inl rfl))).2 h1 (fun x hx => hsame x (by rw [e]; exact List.mem_append_left _ hx)) (fun x hx => hs x (by rw [e]; exact List.mem_append_left _ hx)),
   Fe hl (fun t ht => hT t (List.mem_cons.2 (Or.inr ht))) h2 (fun x hx => hsame x (by rw [e]; exact List.mem_append_right _ hx)) (fun x hx => hs x (by rw [e]; exact List.mem_append_right _ hx)), e⟩
 | [], _ :: _, _, _, _, _, _, _, h, _, _ => h.elim
 | [], [], _ :: _, _, _, _, _, _, h, _, _ => h.elim
 | _ :: _, [], _, _, _, _, _, _, h, _, _ => h.elim
 | _ :: _, _ :: _, [], _, _, _, _, _, h, _, _ => h.elim
theorem QU {f : Func} {s : ChangeSpec} {apart fresh handsOn : Bool} {W W' : World} {args : Array Value} {ds : List (DataW H)} {before : List MemPlace} {tb : TypeId}
  (hW : DataW.Whole enc P f.params.toList s.vars apart W args.toList ds [] before) (hv : s.vars = []) (hr : f.resultTypes = #[tb]) (htb : P.underlying tb = some .bool)
  (hres : (s.fn H (ds ++ [])).results = [.lit (.bool true)]) (hargs : (s.fn H (ds ++ [])).args = ds) (hvs : (s.fn H (ds ++ [])).vars = [])
  (hl : laidOutB P = true) (hT : (f.params.toList.all fun t => P.readableRec t && decide (t < P.types.size)) = true) (hb : Below W.heap.size W W') :
  s.post enc P f apart fresh handsOn false W args (.bool true) W' := by
 have hlt : ∀ p ∈ before, p.block < W.heap.size := fun p hp => hW.lt p hp
 have hT' : ∀ t ∈ f.params.toList, P.readableRec t = true ∧ t < P.types.size := fun t ht => by
  have := List.all_eq_true.1 hT t ht
  simpa using this
 obtain ⟨p, q, hA, hV, rfl, hz, hn⟩ := hW
 rw [hv] at hV
 obtain ⟨_, rfl⟩ := trodVars_none hV
 have hargs' : ∀ sp : Nat → Bool, (∀ x ∈ p, sp x.block = true) → DataW.TrodAll enc P W' 0 sp true f.params.toList args.toList ds p := fun sp hsp =>
  Fe hl hT' hA (fun x hx => hb.same (hlt x (by simpa using hx))) hsp
 have hres' : ∀ (b : Nat) (sp : Nat → Bool) (hd : Bool), DataW.TrodAll enc P W' b sp hd f.resultTypes.toList ((Value.bool true).resultList f.resultTypes.size) (s.fn H (ds ++ [])).results [] := fun b sp hd => by
  rw [hres, hr]
  exact trodAll_cons_mk (shut_bool htb true) trodAll_mk0
 refine ⟨ds, [], p ++ [], [], p, [], ⟨p, [], hA, by rw [hv]; exact rfl, rfl, hz, hn⟩, hres' _ _ _, by rw [hargs]; exact hargs' _ (fun x hx => by simpa using hlt x (by simpa using hx)), by rw [hv, hvs]; exact rfl,
  World.keptBut_mono (fun x hx => ⟨hx, Or.inr (by simpa using hx)⟩) (hb.frame (· ∈ p ++ [])), fun h => by cases h⟩
variable {W : World} {sp : Nat → Bool} {hd : Bool} {base : Nat}
def sto (W : World) : Sto := CU W
theorem RU (W : World) : Fit (sto W) W := fun _ _ h => h
theorem J6 {W : World} {a : Addr} {v : Value} (h : W.cell? a = some v) : a.spot = none := by
 cases hs : a.spot with
 | none => rfl
 | some n =>
  unfold World.cell? at h
  split at h
  ·simp [hs] at h
  ·cases h
theorem L9 {α : Type} {p : Nat → α → Prop} {n : Nat} (h : ∀ i, i < n → ∃ b, p i b) : ∃ xs : List α, xs.length = n ∧ ∀ i (h : i < xs.length), p i xs[i] := by
 induction n with
 | zero => exact ⟨[], rfl, fun i h => absurd h (by simp)⟩
 | succ m ih =>
  obtain ⟨xs, h1, h2⟩ := ih (fun i hi => h i (by omega))
  obtain ⟨b, h3⟩ := h m (by omega)
  refine ⟨xs ++ [b], by simp [h1], fun i hi => ?_⟩
  by_cases him : i < xs.length
  ·rw [List.getElem_append_left him]
   exact h2 i him
  ·have : i = xs.length := by simp at hi; omega
   subst this
   rw [show (xs ++ [b])[xs.length]'hi = b by simp, h1]
   exact h3
theorem H_ {t : TypeId} {f0 f1 f2 : Field} {k0 k1 k2 : Nat} {fuel : Nat} {cs : List Value} {x : DataW H × List MemPlace} (hs : P.underlying t = some (.struct #[f0, f1, f2])) (o0 : f0.offset = 0) (o1 : f1.offset = k0) (o2 : f2.offset = k0 + k1)
  (h0 : P.cellsOf f0.type = k0) (h1 : P.cellsOf f1.type = k1) (h2 : P.cellsOf f2.type = k2) (hC : P.cellsOf t = k0 + k1 + k2) (h : DataW.trod enc P W base sp hd fuel t cs = some x) :
  ∃ (a b c : List Value) (y0 y1 y2 : DataW H × List MemPlace) (n : Nat), fuel = n + 1 ∧ cs = a ++ (b ++ c) ∧ DataW.trod enc P W base sp hd n f0.type a = some y0 ∧ DataW.trod enc P W base sp hd n f1.type b = some y1 ∧ DataW.trod enc P W base sp hd n f2.type c = some y2 := by
 obtain ⟨ys, n, hn, _, hlen, hyl, hf⟩ := DataW.trod_struct hs h
 match ys, hyl with
 | [y0, y1, y2], _ =>
 have g0 := hf 0 f0 rfl
 have g1 := hf 1 f1 rfl
 have g2 := hf 2 f2 rfl
 rw [o0, h0, List.drop_zero] at g0
 rw [o1, h1] at g1
 rw [o2, h2, List.take_of_length_le (by rw [List.length_drop]; omega), ← List.drop_drop] at g2
 exact ⟨_, _, _, y0, y1, y2, n, hn, by rw [List.take_append_drop, List.take_append_drop], g0, g1, g2⟩
theorem EU {α : Type} {e0 : α → List SV} {t e : TypeId} {k : Nat} {fuel : Nat} {cs : List Value} {x : DataW H × List MemPlace} (ht : P.underlying t = some (.slice e)) (hc : P.cellsOf e = k) (hlen : ∀ a, (e0 a).length = k) (hk : 0 < k)
  (f : ∀ (n : Nat) (cs : List Value) (y : DataW H × List MemPlace), n < fuel → DataW.trod enc P W base sp hd n e cs = some y → ∃ a : α, AT (Am (sto W)) cs (e0 a))
  (h : DataW.trod enc P W base sp hd fuel t cs = some x) (hs : Be = true → k < 2 := by decide) : ∃ xs : List α, AT (Am (sto W)) cs [.list (xs.map e0)] := by
 rcases DataW.trod_slice ht h with ⟨rfl, _⟩ | ⟨a, len, cap, Ct, rest, n, hfu, rfl, _, hb, hl, hm, hlen', hel, _, _⟩
 ·exact ⟨[], .cons MO .nil⟩
 ·have key : ∀ i, i < len → ∃ (b : α), ∃ (cs' : List Value), cs'.length = k ∧ (∀ j u, cs'[j]? = some u → W.cell? ((a.add (i * k)).add j) = some u) ∧ AT (Am (sto W)) cs' (e0 b) := fun i hi => by
   have h1 := hel i hi
   rw [List.getElem?_eq_getElem (by omega)] at h1
   obtain ⟨cs', h2, h3⟩ := Option.bind_eq_some_iff.1 h1
   obtain ⟨_, h4, h5⟩ := World.cells?_some h2
   obtain ⟨b, hb⟩ := f n cs' _ (by omega) h3
   rw [hc] at h4 h5
   refine ⟨b, cs', h4, fun j u hj => ?_, hb⟩
   rw [h5 j (by have := (List.getElem?_eq_some_iff.1 hj).1; omega)]
   exact hj
  obtain ⟨xs, hxl, hxs⟩ : ∃ xs : List α, xs.length = len ∧ ∀ i (h : i < xs.length), ∃ cs' : List Value, cs'.length = k ∧ (∀ j u, cs'[j]? = some u → W.cell? ((a.add (i * k)).add j) = some u) ∧ AT (Am (sto W)) cs' (e0 xs[i]) := L9 key
  have cell : ∀ m y j z, (xs.map e0)[m]? = some y → y[j]? = some z → ∃ v, W.cell? ⟨a.block, a.off + m * k + j, none⟩ = some v ∧ Am (sto W) v z := fun m y j z hy hz => by
   rw [List.getElem?_map, Option.map_eq_some_iff] at hy
   obtain ⟨b, hb', rfl⟩ := hy
   obtain ⟨hm', hbe⟩ := List.getElem?_eq_some_iff.1 hb'
   obtain ⟨cs', c1, c2, c3⟩ := hxs m hm'
   rw [hbe] at c3
   obtain ⟨v, v1, v2⟩ := c3.get hz
   refine ⟨v, ?_, v2⟩
   have := c2 j v v1
   have hsp := J6 this
   rw [← this]
   congr 1
   have h7 : ((a.add (m * k)).add j).block = a.block ∧ ((a.add (m * k)).add j).off = a.off + m * k + j := by
    unfold Addr.add
    split <;> split <;> simp_all
   generalize (a.add (m * k)).add j = q at *
   cases q
   simp_all
  refine ⟨xs, .cons (.list (b := a.block) (o := a.off) (w := k) (fun m j => (W.cell? ⟨a.block, a.off + m * k + j, none⟩).getD undef) (by simp [hxl]) hl hm (by simp) (fun h0 => ?_) (fun y hy => ?_) (fun q1 q2 _ => absurd (hs q1) (by omega)) (fun m y j z hy hz => ?_) (fun m y j z hy hz => ?_)) .nil⟩
  ·obtain ⟨cs', h1, h2, h3⟩ := hxs 0 (by omega)
   have h4 : W.cell? a = some (cs'[0]'(by omega)) := by
    have := h2 0 _ (List.getElem?_eq_getElem (by omega))
    simpa [Addr.add] using this
   have := J6 h4
   cases a
   simp_all
  ·obtain ⟨b, _, rfl⟩ := List.mem_map.1 hy
   exact hlen b
  ·obtain ⟨v, v1, v2⟩ := cell m y j z hy hz
   show W.cell? _ = _
   rw [v1]; rfl
  ·obtain ⟨v, v1, v2⟩ := cell m y j z hy hz
   rw [v1]; exact v2
theorem Gf {t : TypeId} (ht : P.underlying t = some (.int .i64)) (fuel : Nat) (cs : List Value) (x : DataW H × List MemPlace) (h : DataW.trod enc P W base sp hd fuel t cs = some x) : ∃ n : Int, AT (Am (sto W)) cs (Cz n) := by
 obtain ⟨n, rfl, _, hn⟩ := DataW.trod_int ht h
 exact ⟨n, .cons (.int (by rw [KS]; simpa [Lit.wf, IntKind.min, IntKind.max, IntKind.signed, IntKind.bits] using hn)) .nil⟩
theorem Pz {t : TypeId} (ht : P.underlying t = some .string) (fuel : Nat) (cs : List Value) (x : DataW H × List MemPlace) (h : DataW.trod enc P W base sp hd fuel t cs = some x) : ∃ s : ByteArray, AT (Am (sto W)) cs (JN s) := by
 obtain ⟨s, rfl, _, hs⟩ := DataW.trod_string ht h
 exact ⟨s, .cons (.str hs) .nil⟩
theorem Mo {α : Type} {e0 : α → List SV} {t : TypeId} {fs : Array Field} (ht : P.underlying t = some (.struct fs)) {r : Reach} {b0 : Nat} {v : Value} {d : DataW H} {p : List MemPlace} (hv : Value.okWide P W r b0 t v)
  (f : ∀ (n : Nat) (cs : List Value) (y : DataW H × List MemPlace), DataW.trod enc P W base sp hd n t cs = some y → ∃ a : α, AT (Am (sto W)) cs (e0 a)) (h : DataW.Trod enc P W base sp hd t v d p) : ∃ a : α, AO (sto W) noS noH v (.agg ((e0 a).map .st)) := by
 obtain ⟨cs, rfl, hsz⟩ := okWide_struct ht hv
 obtain ⟨fuel, hf⟩ := h
 obtain ⟨a, ha⟩ := f fuel _ _ hf
 exact ⟨a, .agg ((AT.mono (fun _ _ h => .st h) ha).map_right)⟩
end
theorem M_ {σ : Sto} (h : LB = [] := by rfl) : Bz σ := fun x hx => by simp [h] at hx
theorem Lp {P : Program} {f : FuncId} {xs : List AV} {b : Bool} (h : Ap P f xs (As b)) {σ : Sto} {w : World} {vs : List Value} (hg : Bz σ) (hf : Fit σ w) (hv : AT (AO σ noS noH) vs xs) :
  Calls P f vs.toArray w fun e w' => e = .returned (.bool b) ∧ Below w.heap.size w w' := (h σ w vs hg hf hv).mono fun e w' ⟨v, σ', he, hv, _, _, hb⟩ => by
 rw [Cb hv] at he
 exact ⟨he, hb⟩

section
variable {H : Type} {enc : TypeId × Value → H} {W : World} {sp : Nat → Bool} {hd : Bool} {base : Nat}
end

end Go.Proofs.Ytkegjgodjigjfaa
namespace Go.Proofs.Ytkegjgodjigjfaa.autoKinds
open Go Go.RowKit Go.ChangeShapes Go.WideShapes Go.ChangeAt
set_option linter.unusedVariables false
set_option maxRecDepth 100000
def H5 (a : Au) : List SV := [.int .i64 a.states, .list (a.moves.map Aj), .list (a.last.map Cz)]
section
variable {H : Type} {enc : TypeId × Value → H} {W : World} {sp : Nat → Bool} {hd : Bool} {base : Nat}
theorem RZ (fuel : Nat) (cs : List Value) (x : DataW H × List MemPlace) (h : DataW.trod enc Try.prog W base sp hd fuel 46 cs = some x) : ∃ m : Mv, AT (Am (sto W)) cs (Aj m) := by
 obtain ⟨a, b, c, y0, y1, y2, n, hn, rfl, h0, h1, h2⟩ := H_ Try.underlying46 rfl rfl rfl (show Try.prog.cellsOf 9 = 1 by kernel_rfl) (show Try.prog.cellsOf 23 = 1 by kernel_rfl) (show Try.prog.cellsOf 3 = 1 by kernel_rfl) (show Try.prog.cellsOf 46 = 3 by kernel_rfl) h
 obtain ⟨s, hs⟩ := Pz Try.underlying9 _ _ _ h0
 obtain ⟨l, hl⟩ := EU (e0 := Cz) (k := 1) Try.underlying23 (by kernel_rfl) (fun _ => rfl) (by decide) (fun m cs y _ hy => Gf Try.underlying3 m cs y hy) h1
 obtain ⟨k, hk⟩ := Gf Try.underlying3 _ _ _ h2
 exact ⟨⟨s, l, k⟩, hs.append (hl.append hk)⟩
theorem Rk (fuel : Nat) (cs : List Value) (x : DataW H × List MemPlace) (h : DataW.trod enc Try.prog W base sp hd fuel 25 cs = some x) : ∃ a : Au, AT (Am (sto W)) cs (H5 a) := by
 obtain ⟨a, b, c, y0, y1, y2, n, hn, rfl, h0, h1, h2⟩ := H_ Try.underlying25 rfl rfl rfl (show Try.prog.cellsOf 3 = 1 by kernel_rfl) (show Try.prog.cellsOf 22 = 1 by kernel_rfl) (show Try.prog.cellsOf 23 = 1 by kernel_rfl) (show Try.prog.cellsOf 25 = 3 by kernel_rfl) h
 obtain ⟨k, hk⟩ := Gf Try.underlying3 _ _ _ h0
 obtain ⟨ms, hms⟩ := EU (e0 := Aj) (k := 3) Try.underlying22 (by kernel_rfl) (fun _ => rfl) (by decide) (fun m cs y _ hy => RZ m cs y hy) h1
 obtain ⟨l, hl⟩ := EU (e0 := Cz) (k := 1) Try.underlying23 (by kernel_rfl) (fun _ => rfl) (by decide) (fun m cs y _ hy => Gf Try.underlying3 m cs y hy) h2
 exact ⟨⟨k, ms, l⟩, hk.append (hms.append hl)⟩
theorem Q3 {r : Reach} {b0 : Nat} {v : Value} {d : DataW H} {p : List MemPlace} (hv : Value.okWide Try.prog W r b0 25 v) (h : DataW.Trod enc Try.prog W base sp hd 25 v d p) : ∃ a : Au, AO (sto W) noS noH v (aAu a) := by
 obtain ⟨a, ha⟩ := Mo Try.underlying25 hv Rk h
 exact ⟨a, ha⟩
end
theorem own : ownKnob Try.prog.godebug = none := by kernel_rfl
theorem SW : laidOutB Try.prog = true := by kernel_rfl
set_option maxRecDepth 100000 in
theorem QR (H : Type) (enc : TypeId × Value → H) (W : World) (base : Nat) (args : Array Value) (ds gs : List (DataW H)) (before : List MemPlace)
  (hval : ∀ (j : Nat) t v, Try.f3.params[j]? = some t → args[j]? = some v → Value.okWide Try.prog W .any base t v)
  (hW : DataW.Whole enc Try.prog Try.f3.params.toList Rows.autoKindsSpec.vars false W args.toList ds gs before) :
  Calls Try.prog 3 args W fun e W' => ∃ v, e = .returned v ∧ Rows.autoKindsSpec.post enc Try.prog Try.f3 false true false false W args v W' := by
 obtain ⟨p, q, hA0, hV, rfl, hfz, hnd⟩ := id hW
 obtain ⟨rfl, rfl⟩ := trodVars_none hV
 have hA : DataW.TrodAll enc Try.prog W 0 (fun _ => true) true Try.f3.params.toList args.toList ds p := hA0
 rw [Try.params3] at hA hval
 obtain ⟨v0, v1, d0, d1, p0, p1, hargs, rfl, rfl, h0, h1⟩ := trodAll_two hA
 obtain rfl : args = #[v0, v1] := by cases args; simp_all
 obtain ⟨a, r0⟩ := Q3 (hval 0 25 v0 rfl rfl) h0
 obtain ⟨b, r1⟩ := Q3 (hval 1 25 v1 rfl rfl) h1
 refine (Lp (LZ a b) M_ (RU W) (vs := [v0, v1]) (.cons r0 (.cons r1 .nil))).mono fun e W' ⟨he, hb⟩ => ⟨_, he, ?_⟩
 exact QU hW rfl rfl Try.underlying4 rfl rfl rfl SW (by kernel_rfl) hb
set_option maxRecDepth 100000 in
theorem SJ (os : Os) (started : os.Started) (H : Type) (enc : TypeId × Value → H) :
  ReturnsInHanded {} Try.checked os 3 .any (Rows.autoKindsSpec.pre6 enc Try.prog Try.f3 Rows.autoKindsRow.domain false) (Rows.autoKindsSpec.post enc Try.prog Try.f3 false true false false) := by
 refine returnsInHanded_of_change (C := Try.checked) own started (by kernel_rfl) Try.func3
  (ChangeSpec.witness6 (enc := enc) (C := Try.checked) false ⟨#[], #[.agg #[.int .i64 0, .slice none 0 0, .slice none 0 0], .agg #[.int .i64 0, .slice none 0 0, .slice none 0 0]], []⟩ 8 (by kernel_rfl) (by kernel_rfl) (by kernel_rfl) (by kernel_rfl)) ?_
 intro W base args ds gs before hval hW _ _
 exact QR H enc W base args ds gs before hval hW
theorem proved : Rows.AutoKindsSaid :=
 OpenClaim.holds_of_wide 3 Try.f3 rfl rfl rfl rfl rfl rfl rfl ⟨rfl, rfl, rfl, rfl, rfl⟩ rfl rfl rfl rfl rfl (by kernel_rfl) Try.func3 (by kernel_rfl)
  (of_decide_eq_true (by kernel_rfl)) (by unfold Func.isWrapper; first | (rw [if_pos (by decide +kernel)]; kernel_rfl) | (rw [if_neg (by decide +kernel)]; exact ⟨rfl, rfl⟩))
  (fun os started H enc _ => SJ os started H enc)

end Go.Proofs.Ytkegjgodjigjfaa.autoKinds
