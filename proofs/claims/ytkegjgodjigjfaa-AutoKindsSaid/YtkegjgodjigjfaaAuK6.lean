/-
  Part 6 of the texts. Conditions: none.
-/
import Derived.Test.YtkegjgodjigjfaaAuK5
namespace Go.Proofs.Ytkegjgodjigjfaa
open Go Go.RowKit
set_option linter.unusedVariables false
set_option linter.unusedSimpArgs false
set_option maxHeartbeats 1000000
def Aj (m : Mv) : List SV := [.str m.name, .list (m.frm.map Cz), .int .i64 m.to_]
abbrev aAu (a : Au) : AV := .agg [.st (.int .i64 a.states), .st (.list (a.moves.map Aj)), .st (.list (a.last.map Cz))]
abbrev Md (b : Bool) : List SV := [.bool b]
abbrev OG (l : List Bool) : List SV := [.list (l.map Md)]
abbrev Gr (l : List Bool) : AV := .one (.st (.list (l.map Md)))
abbrev SD (l : List (List Bool)) : AV := .one (.st (.list (l.map OG)))
theorem NF {ts : List (List Bool)} : ∀ x ∈ ts.map OG, x.length = 1 := by
 intro x hx
 obtain ⟨a, _, rfl⟩ := List.mem_map.1 hx
 rfl
theorem GK {S : AA} {a : Au} (h : (aAu a).known S) : a.moves.length ≤ 9223372036854775807 ∧ a.last.length ≤ 9223372036854775807 ∧ ∀ m ∈ a.moves, m.frm.length ≤ 9223372036854775807 := by
 have h1 := h (.st (.list (a.moves.map Aj))) (by simp)
 have h2 := h (.st (.list (a.last.map Cz))) (by simp)
 simp only [AC.known, SV.known, List.length_map] at h1 h2
 rw [Bu] at h1 h2
 refine ⟨h1.1, h2.1, fun m hm => ?_⟩
 have h3 := Fu.1 (Eh.1 h1.2 (Aj m) (List.mem_map.2 ⟨m, hm, rfl⟩)) (.list (m.frm.map Cz)) (by simp [Aj])
 simp only [SV.known, List.length_map] at h3
 rw [Bu] at h3
 exact h3.1
theorem CZ {α : Type} {p : α → Bool} {xs : List α} {k : Nat} {a : α} (ha : xs[k]? = some a) (h : (xs.take k).all p = true) : (xs.take (k + 1)).all p = p a := by
 rw [Af ha, List.all_append, h]
 simp
theorem Gt {α : Type} {p : α → Bool} {xs : List α} {k : Nat} {a : α} (ha : xs[k]? = some a) (h : (xs.take k).any p = false) : (xs.take (k + 1)).any p = p a := by
 rw [Af ha, List.any_append, h]
 simp
theorem OU {α : Type} {p : α → Bool} {xs : List α} {k : Nat} (h : (xs.take k).any p = true) : xs.any p = true := by
 rw [List.any_eq_true] at h ⊢
 obtain ⟨x, hx, h2⟩ := h
 exact ⟨x, List.mem_of_mem_take hx, h2⟩
theorem IS {α : Type} {p : α → Bool} {xs : List α} {a : α} (ha : a ∈ xs) (h : p a = false) : xs.all p = false := by
 rw [List.all_eq_false]
 exact ⟨a, ha, by simp [h]⟩
def Au.huge (a : Au) : Bool := a.moves.any (fun m => decide (50 < m.frm.length)) || decide (100 < a.moves.length) || decide (100 < a.last.length)
theorem Ag (a : Au) : Ap Try.prog 7 [aAu a] (As a.huge) := by
 refine JE.ac fun C hC => ?_
 unfold FY
 refine IWP.learn 0 (by omega) fun hkn => ?_
 obtain ⟨kM, kL, kF⟩ := GK hkn
 repeat' with_reducible first | refine W ?_ | refine Z0 ?_ | ((first | refine Wo fun K hK => ?_ | refine Wp ?_ | refine Wq ?_ | refine Wr ?_); (try simp only [go_sem, fN, seval, eT, iR, dT, dF, nL]); (repeat refine Ai ?_); (try (refine hK _ ?_; clear hK K)); try refine iC ?_)
 refine IWP.loop (fun n s => ∃ k, k ≤ a.moves.length ∧ n = a.moves.length - k ∧ s.env 1 = .one (.ptr 1 1 0 0) ∧ s.S 1 = some (.box 25 [.st (.int .i64 a.states), .st (.list (a.moves.map Aj)), .st (.list (a.last.map Cz))]) ∧ s.env 3 = AN k ∧ (a.moves.take k).any (fun m => decide (50 < m.frm.length)) = false) a.moves.length ⟨0, Nat.zero_le _, rfl, rfl, rfl, rfl, rfl⟩ ?_
 rintro n ⟨env, S⟩ ⟨k, hk, rfl, e1, s1, e3, hno⟩
 simp only at e1 s1 e3
 by_cases hlt : (k : Int) < a.moves.length
 ·obtain ⟨m, hm⟩ := Ad (show k < a.moves.length by omega)
  have hst := Gt hm hno
  by_cases hb : (50 : Int) < m.frm.length
  ·have h2 : a.huge = true := by
    unfold Au.huge
    rw [OU (k := k + 1) (by rw [hst]; simpa using (show 50 < m.frm.length by omega))]
    rfl
   repeat' with_reducible first | refine W ?_ | refine Z0 ?_ | ((first | refine Wo fun K hK => ?_ | refine Wp ?_ | refine Wq ?_ | refine Wr ?_); (try simp only [go_sem, fN, seval, eT, iR, e1, s1, e3, hlt, hm, Aj, hb, dT, dF, nL]); (repeat refine Ai ?_); (try (refine hK _ ?_; clear hK K)); try refine iC ?_)
   simp only [go_sem, fN, seval, Ab, AS.result, AI, AJ, AW, h2]
  ·repeat' with_reducible first | refine W ?_ | refine Z0 ?_ | ((first | refine Wo fun K hK => ?_ | refine Wp ?_ | refine Wq ?_ | refine Wr ?_); (try simp only [go_sem, fN, seval, eT, iR, e1, s1, e3, hlt, hm, Aj, hb, dT, dF, nL]); (repeat refine Ai ?_); (try (refine hK _ ?_; clear hK K)); try refine iC ?_)
   refine AE ⟨a.moves.length - (k + 1), by omega, k + 1, by omega, rfl, ?_⟩
   simp only [go_sem, fN, seval, eT, iR, e1, s1, e3]
   exact ⟨by congr 3, by rw [hst]; simpa using (show ¬ 50 < m.frm.length by omega)⟩
 ·have hno' : a.moves.any (fun m => decide (50 < m.frm.length)) = false := by
   rw [List.take_of_length_le (by omega)] at hno
   exact hno
  by_cases h1 : (100 : Int) < a.moves.length
  ·have h2 : a.huge = true := by
    unfold Au.huge
    simp [show 100 < a.moves.length by omega]
   repeat' with_reducible first | refine W ?_ | refine Z0 ?_ | ((first | refine Wo fun K hK => ?_ | refine Wp ?_ | refine Wq ?_ | refine Wr ?_); (try simp only [go_sem, fN, seval, eT, iR, e1, s1, e3, hlt, h1, dT, dF, nL]); (repeat refine Ai ?_); (try (refine hK _ ?_; clear hK K)); try refine iC ?_)
   simp only [go_sem, fN, seval, Ab, AS.result, AI, AJ, AW, h2]
  ·by_cases h3 : (100 : Int) < a.last.length
   ·have h2 : a.huge = true := by
     unfold Au.huge
     simp [show 100 < a.last.length by omega]
    repeat' with_reducible first | refine W ?_ | refine Z0 ?_ | ((first | refine Wo fun K hK => ?_ | refine Wp ?_ | refine Wq ?_ | refine Wr ?_); (try simp only [go_sem, fN, seval, eT, iR, e1, s1, e3, hlt, h1, h3, dT, dF, nL]); (repeat refine Ai ?_); (try (refine hK _ ?_; clear hK K)); try refine iC ?_)
    simp only [go_sem, fN, seval, Ab, AS.result, AI, AJ, AW, h2]
   ·have h2 : a.huge = false := by
     unfold Au.huge
     rw [hno']
     simp [show ¬ 100 < a.moves.length by omega, show ¬ 100 < a.last.length by omega]
    repeat' with_reducible first | refine W ?_ | refine Z0 ?_ | ((first | refine Wo fun K hK => ?_ | refine Wp ?_ | refine Wq ?_ | refine Wr ?_); (try simp only [go_sem, fN, seval, eT, iR, e1, s1, e3, hlt, h1, h3, dT, dF, nL]); (repeat refine Ai ?_); (try (refine hK _ ?_; clear hK K)); try refine iC ?_)
    simp only [go_sem, fN, seval, Ab, AS.result, AI, AJ, AW, h2]
theorem MV {S : Int} {m : Mv} (h : ¬ A8 m.name = true) : m.err S = 1 := if_neg (fun h' => h h'.1)
theorem OH {S : Int} {m : Mv} (h : Cs m.name = true) : m.err S = 1 := if_neg (fun h' => by rw [h] at h'; exact absurd h'.2 (by decide))
theorem OJ {S : Int} {m : Mv} (h1 : A8 m.name = true) (h2 : ¬ Cs m.name = true) (h : 4 < m.frm.length) : m.err S = 3 := by
 unfold Mv.err
 rw [if_pos ⟨h1, by simpa using h2⟩, if_pos h]
theorem Kz {S : Int} {m : Mv} (h1 : A8 m.name = true) (h2 : ¬ Cs m.name = true) (h3 : ¬ 4 < m.frm.length) {s : Int} (hs : s ∈ m.frm) (h : s < 0 ∨ S ≤ s) : m.err S = 10 := by
 unfold Mv.err
 rw [if_pos ⟨h1, by simpa using h2⟩, if_neg h3, if_neg]
 intro h'
 have := EV.1 (List.all_eq_true.1 h'.1 s hs)
 omega
theorem NI {S : Int} {m : Mv} (h1 : A8 m.name = true) (h2 : ¬ Cs m.name = true) (h3 : ¬ 4 < m.frm.length) (h : m.to_ < 0 ∨ S ≤ m.to_) : m.err S = 10 := by
 unfold Mv.err
 rw [if_pos ⟨h1, by simpa using h2⟩, if_neg h3, if_neg]
 intro h'
 have := EV.1 h'.2
 omega
theorem L4 {S : Int} {m : Mv} (h1 : A8 m.name = true) (h2 : ¬ Cs m.name = true) (h3 : ¬ 4 < m.frm.length) (h4 : m.frm.all (inS S) = true) (h5 : inS S m.to_ = true) : m.err S = 0 := by
 unfold Mv.err
 rw [if_pos ⟨h1, by simpa using h2⟩, if_neg h3, if_pos ⟨h4, h5⟩]
theorem Bi {a : Au} {S M : Int} {k : Nat} {m : Mv} (h0 : ¬ (a.states < 0 ∨ S < a.states ∨ M < a.moves.length)) (hm : a.moves[k]? = some m) (ht : BC a.states (a.moves.take k) = 0) {e : Int} (he : m.err a.states = e) (hne : e ≠ 0) : a.may S M = e := by
 have h1 : ¬ BC a.states (a.moves.take (k + 1)) = 0 := by
  rw [Df hm ht, he]
  exact hne
 have h2 := O3 h1
 rw [Df hm ht, he] at h2
 unfold Au.may
 rw [if_neg h0, h2, if_neg hne]
theorem LL {a : Au} {S M : Int} (h0 : ¬ (a.states < 0 ∨ S < a.states ∨ M < a.moves.length)) (ht : BC a.states a.moves = 0) : a.may S M = if a.last.all (inS a.states) = true then 0 else 10 := by
 unfold Au.may
 rw [if_neg h0, if_pos ht]
theorem Hl {S s : Int} (h : s < 0 ∨ S ≤ s) : inS S s = false := by
 cases hh : inS S s with
 | false => rfl
 | true =>
  have := EV.1 hh
  omega
theorem I2 {S s : Int} (h1 : ¬ s < 0) (h2 : ¬ S ≤ s) : inS S s = true := EV.2 (by omega)
theorem J8 (a : Au) (S M : Int) : Ap Try.prog 8 [aAu a, AN S, AN M] (AN (a.may S M)) := by
 by_cases h1 : a.states < 0
 ·have e : a.may S M = 3 := if_pos (Or.inl h1)
  rw [e]
  refine DB.ac fun C hC => ?_
  unfold CN
  repeat' with_reducible first | refine W ?_ | refine Z0 ?_ | ((first | refine Wo fun K hK => ?_ | refine Wp ?_ | refine Wq ?_ | refine Wr ?_); (try simp only [go_sem, fN, seval, eT, iR, h1, dT, dF, nL]); (repeat refine Ai ?_); (try (refine hK _ ?_; clear hK K)); try refine iC ?_)
  simp only [go_sem, fN, seval, Ab, AS.result, AI, AJ, AW]
 by_cases h2 : S < a.states
 ·have e : a.may S M = 3 := if_pos (Or.inr (Or.inl h2))
  rw [e]
  refine DB.ac fun C hC => ?_
  unfold CN
  repeat' with_reducible first | refine W ?_ | refine Z0 ?_ | ((first | refine Wo fun K hK => ?_ | refine Wp ?_ | refine Wq ?_ | refine Wr ?_); (try simp only [go_sem, fN, seval, eT, iR, h1, h2, dT, dF, nL]); (repeat refine Ai ?_); (try (refine hK _ ?_; clear hK K)); try refine iC ?_)
  simp only [go_sem, fN, seval, Ab, AS.result, AI, AJ, AW]
 by_cases h3 : M < a.moves.length
 ·have e : a.may S M = 3 := if_pos (Or.inr (Or.inr h3))
  rw [e]
  refine DB.ac fun C hC => ?_
  unfold CN
  repeat' with_reducible first | refine W ?_ | refine Z0 ?_ | ((first | refine Wo fun K hK => ?_ | refine Wp ?_ | refine Wq ?_ | refine Wr ?_); (try simp only [go_sem, fN, seval, eT, iR, h1, h2, h3, dT, dF, nL]); (repeat refine Ai ?_); (try (refine hK _ ?_; clear hK K)); try refine iC ?_)
  simp only [go_sem, fN, seval, Ab, AS.result, AI, AJ, AW]
 have h0 : ¬ (a.states < 0 ∨ S < a.states ∨ M < a.moves.length) := by omega
 refine DB.ac fun C hC => ?_
 unfold CN
 refine IWP.learn 0 (by omega) fun hkn => ?_
 obtain ⟨kM, kL, kF⟩ := GK hkn
 repeat' with_reducible first | refine W ?_ | refine Z0 ?_ | ((first | refine Wo fun K hK => ?_ | refine Wp ?_ | refine Wq ?_ | refine Wr ?_); (try simp only [go_sem, fN, seval, eT, iR, h1, h2, h3, dT, dF, nL]); (repeat refine Ai ?_); (try (refine hK _ ?_; clear hK K)); try refine iC ?_)
 refine IWP.loopD [8] (fun n s => ∃ k, k ≤ a.moves.length ∧ n = a.moves.length - k ∧ s.env 3 = .one (.ptr 3 1 0 0) ∧ s.S 3 = some (.box 25 [.st (.int .i64 a.states), .st (.list (a.moves.map Aj)), .st (.list (a.last.map Cz))]) ∧ s.env 7 = AN k ∧ s.S 8 = none ∧ BC a.states (a.moves.take k) = 0) a.moves.length ⟨0, Nat.zero_le _, rfl, rfl, rfl, rfl, rfl, rfl⟩ ?_
 rintro n ⟨env, St⟩ ⟨k, hk, rfl, e3, s3, e7, s8, hno⟩
 simp only at e3 s3 e7 s8
 by_cases hlt : (k : Int) < a.moves.length
 ·obtain ⟨m, hm⟩ := Ad (show k < a.moves.length by omega)
  have hmm := AR hm
  have hst := Df hm hno
  by_cases g1 : A8 m.name = true
  case neg =>
   have e := Bi h0 hm hno (MV g1) (by decide)
   repeat' (first | (with_reducible first | refine W ?_ | refine Z0 ?_ | ((first | refine Wo fun K hK => ?_ | refine Wp ?_ | refine Wq ?_ | refine Wr ?_); (try simp only [go_sem, fN, seval, eT, iR, e3, s3, e7, s8, hlt, hm, Aj, g1, dT, dF, nL]); (repeat refine Ai ?_); (try (refine hK _ ?_; clear hK K)); try refine iC ?_)) | refine Cg _ (F6 m.name) ?_)
   simp only [go_sem, fN, seval, Ab, AS.result, AI, AJ, AW, e]
  case pos =>
  by_cases g2 : Cs m.name = true
  ·have e := Bi h0 hm hno (OH g2) (by decide)
   repeat' (first | (with_reducible first | refine W ?_ | refine Z0 ?_ | ((first | refine Wo fun K hK => ?_ | refine Wp ?_ | refine Wq ?_ | refine Wr ?_); (try simp only [go_sem, fN, seval, eT, iR, e3, s3, e7, s8, hlt, hm, Aj, g1, g2, dT, dF, nL]); (repeat refine Ai ?_); (try (refine hK _ ?_; clear hK K)); try refine iC ?_)) | refine Cg _ (F6 m.name) ?_ | refine Cg _ (Kx m.name) ?_)
   simp only [go_sem, fN, seval, Ab, AS.result, AI, AJ, AW, e]
  by_cases g3 : (4 : Int) < m.frm.length
  ·have e := Bi h0 hm hno (OJ g1 g2 (by omega)) (by decide)
   repeat' (first | (with_reducible first | refine W ?_ | refine Z0 ?_ | ((first | refine Wo fun K hK => ?_ | refine Wp ?_ | refine Wq ?_ | refine Wr ?_); (try simp only [go_sem, fN, seval, eT, iR, e3, s3, e7, s8, hlt, hm, Aj, g1, g2, g3, dT, dF, nL]); (repeat refine Ai ?_); (try (refine hK _ ?_; clear hK K)); try refine iC ?_)) | refine Cg _ (F6 m.name) ?_ | refine Cg _ (Kx m.name) ?_)
   simp only [go_sem, fN, seval, Ab, AS.result, AI, AJ, AW, e]
  have g3' : ¬ 4 < m.frm.length := by omega
  repeat' (first | (with_reducible first | refine W ?_ | refine Z0 ?_ | ((first | refine Wo fun K hK => ?_ | refine Wp ?_ | refine Wq ?_ | refine Wr ?_); (try simp only [go_sem, fN, seval, eT, iR, e3, s3, e7, s8, hlt, hm, Aj, g1, g2, g3, dT, dF, nL]); (repeat refine Ai ?_); (try (refine hK _ ?_; clear hK K)); try refine iC ?_)) | refine Cg _ (F6 m.name) ?_ | refine Cg _ (Kx m.name) ?_)
  refine IWP.loop (fun n s => ∃ j, j ≤ m.frm.length ∧ n = m.frm.length - j ∧ s.env 3 = .one (.ptr 3 1 0 0) ∧ s.S 3 = some (.box 25 [.st (.int .i64 a.states), .st (.list (a.moves.map Aj)), .st (.list (a.last.map Cz))]) ∧ s.env 7 = AN k ∧ s.env 8 = .one (.ptr 8 1 0 0) ∧ s.S 8 = some (.box 46 [.st (.str m.name), .st (.list (m.frm.map Cz)), .st (.int .i64 m.to_)]) ∧ s.env 9 = AN j ∧ (m.frm.take j).all (inS a.states) = true) m.frm.length ⟨0, Nat.zero_le _, rfl, by simpa [AF] using e3, by simpa [AF] using s3, by simpa [AF] using e7, rfl, by simp [AF], rfl, rfl⟩ ?_
  rintro n ⟨env2, S2⟩ ⟨j, hj, rfl, f3, t3, f7, f8, t8, f9, hall⟩
  simp only at f3 t3 f7 f8 t8 f9
  have kFm := kF m hmm
  by_cases hjl : (j : Int) < m.frm.length
  ·obtain ⟨s, hs⟩ := Ad (show j < m.frm.length by omega)
   have hst2 := CZ hs hall
   by_cases g4 : s < 0
   ·have e := Bi h0 hm hno (Kz g1 g2 g3' (AR hs) (Or.inl g4)) (by decide)
    repeat' with_reducible first | refine W ?_ | refine Z0 ?_ | ((first | refine Wo fun K hK => ?_ | refine Wp ?_ | refine Wq ?_ | refine Wr ?_); (try simp only [go_sem, fN, seval, eT, iR, f3, t3, f7, f8, t8, f9, hjl, hs, g4, dT, dF, nL]); (repeat refine Ai ?_); (try (refine hK _ ?_; clear hK K)); try refine iC ?_)
    simp only [go_sem, fN, seval, Ab, AS.result, AI, AJ, AW, e]
   by_cases g5 : a.states ≤ s
   ·have e := Bi h0 hm hno (Kz g1 g2 g3' (AR hs) (Or.inr g5)) (by decide)
    repeat' with_reducible first | refine W ?_ | refine Z0 ?_ | ((first | refine Wo fun K hK => ?_ | refine Wp ?_ | refine Wq ?_ | refine Wr ?_); (try simp only [go_sem, fN, seval, eT, iR, f3, t3, f7, f8, t8, f9, hjl, hs, g4, g5, dT, dF, nL]); (repeat refine Ai ?_); (try (refine hK _ ?_; clear hK K)); try refine iC ?_)
    simp only [go_sem, fN, seval, Ab, AS.result, AI, AJ, AW, e]
   ·repeat' with_reducible first | refine W ?_ | refine Z0 ?_ | ((first | refine Wo fun K hK => ?_ | refine Wp ?_ | refine Wq ?_ | refine Wr ?_); (try simp only [go_sem, fN, seval, eT, iR, f3, t3, f7, f8, t8, f9, hjl, hs, g4, g5, dT, dF, nL]); (repeat refine Ai ?_); (try (refine hK _ ?_; clear hK K)); try refine iC ?_)
    refine AE ⟨m.frm.length - (j + 1), by omega, j + 1, by omega, rfl, ?_⟩
    simp only [go_sem, fN, seval, eT, iR, f3, t3, f7, f8, t8, f9]
    exact ⟨by congr 3, by rw [hst2]; exact I2 g4 g5⟩
  ·rw [List.take_of_length_le (by omega)] at hall
   by_cases g6 : m.to_ < 0
   ·have e := Bi h0 hm hno (NI g1 g2 g3' (Or.inl g6)) (by decide)
    repeat' with_reducible first | refine W ?_ | refine Z0 ?_ | ((first | refine Wo fun K hK => ?_ | refine Wp ?_ | refine Wq ?_ | refine Wr ?_); (try simp only [go_sem, fN, seval, eT, iR, f3, t3, f7, f8, t8, f9, hjl, g6, dT, dF, nL]); (repeat refine Ai ?_); (try (refine hK _ ?_; clear hK K)); try refine iC ?_)
    simp only [go_sem, fN, seval, Ab, AS.result, AI, AJ, AW, e]
   by_cases g7 : a.states ≤ m.to_
   ·have e := Bi h0 hm hno (NI g1 g2 g3' (Or.inr g7)) (by decide)
    repeat' with_reducible first | refine W ?_ | refine Z0 ?_ | ((first | refine Wo fun K hK => ?_ | refine Wp ?_ | refine Wq ?_ | refine Wr ?_); (try simp only [go_sem, fN, seval, eT, iR, f3, t3, f7, f8, t8, f9, hjl, g6, g7, dT, dF, nL]); (repeat refine Ai ?_); (try (refine hK _ ?_; clear hK K)); try refine iC ?_)
    simp only [go_sem, fN, seval, Ab, AS.result, AI, AJ, AW, e]
   ·repeat' with_reducible first | refine W ?_ | refine Z0 ?_ | ((first | refine Wo fun K hK => ?_ | refine Wp ?_ | refine Wq ?_ | refine Wr ?_); (try simp only [go_sem, fN, seval, eT, iR, f3, t3, f7, f8, t8, f9, hjl, g6, g7, dT, dF, nL]); (repeat refine Ai ?_); (try (refine hK _ ?_; clear hK K)); try refine iC ?_)
    refine AE ⟨a.moves.length - (k + 1), by omega, k + 1, by omega, rfl, ?_⟩
    simp only [go_sem, fN, seval, AS.drop, AU, AC.clears, AC.clear, AC.highs, AC.high, Bool.not_false, Bool.true_and, Bool.and_self, AV.purge, AV.purges, AC.purge, AH.purge, List.contains_cons, List.contains_nil, Nat.reduceBEq, Bool.or_self, Bool.or_false, Bool.false_or, Bool.or_true, eT, iR, f3, t3, f7, f8, t8, f9]
    exact ⟨by congr 3, by rw [hst]; exact L4 g1 g2 g3' hall (I2 g6 g7)⟩
 ·rw [List.take_of_length_le (by omega)] at hno
  have e := LL (S := S) (M := M) h0 hno
  repeat' with_reducible first | refine W ?_ | refine Z0 ?_ | ((first | refine Wo fun K hK => ?_ | refine Wp ?_ | refine Wq ?_ | refine Wr ?_); (try simp only [go_sem, fN, seval, eT, iR, e3, s3, e7, s8, hlt, dT, dF, nL]); (repeat refine Ai ?_); (try (refine hK _ ?_; clear hK K)); try refine iC ?_)
  refine IWP.loop (fun n s => ∃ k, k ≤ a.last.length ∧ n = a.last.length - k ∧ s.env 3 = .one (.ptr 3 1 0 0) ∧ s.S 3 = some (.box 25 [.st (.int .i64 a.states), .st (.list (a.moves.map Aj)), .st (.list (a.last.map Cz))]) ∧ s.env 10 = AN k ∧ (a.last.take k).all (inS a.states) = true) a.last.length ⟨0, Nat.zero_le _, rfl, by simpa [AF] using e3, by simpa [AF] using s3, rfl, rfl⟩ ?_
  rintro n ⟨env2, S2⟩ ⟨j, hj, rfl, f3, t3, f10, hall⟩
  simp only at f3 t3 f10
  by_cases hjl : (j : Int) < a.last.length
  ·obtain ⟨s, hs⟩ := Ad (show j < a.last.length by omega)
   have hst2 := CZ hs hall
   by_cases g4 : s < 0
   ·rw [IS (AR hs) (Hl (Or.inl g4)), if_neg (by decide)] at e
    repeat' with_reducible first | refine W ?_ | refine Z0 ?_ | ((first | refine Wo fun K hK => ?_ | refine Wp ?_ | refine Wq ?_ | refine Wr ?_); (try simp only [go_sem, fN, seval, eT, iR, f3, t3, f10, hjl, hs, g4, dT, dF, nL]); (repeat refine Ai ?_); (try (refine hK _ ?_; clear hK K)); try refine iC ?_)
    simp only [go_sem, fN, seval, Ab, AS.result, AI, AJ, AW, e]
   by_cases g5 : a.states ≤ s
   ·rw [IS (AR hs) (Hl (Or.inr g5)), if_neg (by decide)] at e
    repeat' with_reducible first | refine W ?_ | refine Z0 ?_ | ((first | refine Wo fun K hK => ?_ | refine Wp ?_ | refine Wq ?_ | refine Wr ?_); (try simp only [go_sem, fN, seval, eT, iR, f3, t3, f10, hjl, hs, g4, g5, dT, dF, nL]); (repeat refine Ai ?_); (try (refine hK _ ?_; clear hK K)); try refine iC ?_)
    simp only [go_sem, fN, seval, Ab, AS.result, AI, AJ, AW, e]
   ·repeat' with_reducible first | refine W ?_ | refine Z0 ?_ | ((first | refine Wo fun K hK => ?_ | refine Wp ?_ | refine Wq ?_ | refine Wr ?_); (try simp only [go_sem, fN, seval, eT, iR, f3, t3, f10, hjl, hs, g4, g5, dT, dF, nL]); (repeat refine Ai ?_); (try (refine hK _ ?_; clear hK K)); try refine iC ?_)
    refine AE ⟨a.last.length - (j + 1), by omega, j + 1, by omega, rfl, ?_⟩
    simp only [go_sem, fN, seval, eT, iR, f3, t3, f10]
    exact ⟨by congr 3, by rw [hst2]; exact I2 g4 g5⟩
  ·rw [List.take_of_length_le (by omega)] at hall
   rw [hall, if_pos rfl] at e
   repeat' with_reducible first | refine W ?_ | refine Z0 ?_ | ((first | refine Wo fun K hK => ?_ | refine Wp ?_ | refine Wq ?_ | refine Wr ?_); (try simp only [go_sem, fN, seval, eT, iR, f3, t3, f10, hjl, dT, dF, nL]); (repeat refine Ai ?_); (try (refine hK _ ?_; clear hK K)); try refine iC ?_)
   simp only [go_sem, fN, seval, Ab, AS.result, AI, AJ, AW, e]

theorem Qv (l : List Int) (hl : l.length ≤ 1000000) : Hk Try.prog 49 [N_ l] 3 1 (l.map Cz) := by
 unfold Hk
 rw [List.length_map]
 refine Dz.acS fun hS C hC => ?_
 unfold CC
 by_cases h0 : l.length = 0
 ·have hl : l = [] := List.eq_nil_of_length_eq_zero h0
  subst hl
  repeat' with_reducible first | refine W ?_ | refine Z0 ?_ | ((first | refine Wo fun K hK => ?_ | refine Wp ?_ | refine Wq ?_ | refine Wr ?_); (try simp only [go_sem, fN, seval, eT, iR, dT, dF, nL]); (repeat refine Ai ?_); (try (refine hK _ ?_; clear hK K)); try refine iC ?_)
  refine ⟨?_, ?_⟩
  ·repeat' with_reducible first | refine W ?_ | refine Z0 ?_ | ((first | refine Wo fun K hK => ?_ | refine Wp ?_ | refine Wq ?_ | refine Wr ?_); (try simp only [go_sem, fN, seval, eT, iR, dT, dF, nL]); (repeat refine Ai ?_); (try (refine hK _ ?_; clear hK K)); try refine iC ?_)
   refine Mm (Ae.own (C := C) 2 30 3 1 (xs := []) rfl rfl (by simp) (by omega)) ?_
   exact R3 (mu := false) trivial 30 (by decide) rfl (fun i hi => by show AF _ _ _ _ = _; rw [AD _ (by omega)]; rfl) rfl
  ·repeat' with_reducible first | refine W ?_ | refine Z0 ?_ | ((first | refine Wo fun K hK => ?_ | refine Wp ?_ | refine Wq ?_ | refine Wr ?_); (try simp only [go_sem, fN, seval, eT, iR, dT, dF, nL]); (repeat refine Ai ?_); (try (refine hK _ ?_; clear hK K)); try refine iC ?_)
   exact R3 (mu := false) trivial 7 (by decide) rfl (fun i hi => by show AF _ _ _ _ = _; rw [AD _ (by omega)]; rfl) rfl
 ·have hb : l.length * 8 ≤ 140737488355328 := by omega
  repeat' with_reducible first | refine W ?_ | refine Z0 ?_ | ((first | refine Wo fun K hK => ?_ | refine Wp ?_ | refine Wq ?_ | refine Wr ?_); (try simp only [go_sem, fN, seval, eT, iR, h0, hb, dT, dF, nL]); (repeat refine Ai ?_); (try (refine hK _ ?_; clear hK K)); try refine iC ?_)
  exact R3 (mu := false) trivial 7 (by decide) rfl (fun i hi => by show AF _ _ _ _ = _; rw [AD _ (by omega)]; rfl) rfl

def AL (a : Au) : AH := .box 25 [.st (.int .i64 a.states), .st (.list (a.moves.map Aj)), .st (.list (a.last.map Cz))]
theorem NG (a : Au) (x : Int) (b : Nat) (hb : 1000 ≤ b) (S : AA) (sb : S b = some (AL a)) : BO Try.prog 72 [AN x, .one (.ptr b 1 0 0)] S (As (!inS a.states x)) S := by
 refine GR.acS fun hS C hC => ?_
 unfold Di
 unfold AL at sb
 by_cases h1 : x < 0
 ·have e : inS a.states x = false := Hl (Or.inl h1)
  repeat' with_reducible first | refine W ?_ | refine Z0 ?_ | ((first | refine Wo fun K hK => ?_ | refine Wp ?_ | refine Wq ?_ | refine Wr ?_); (try simp only [go_sem, fN, seval, eT, iR, sb, h1, dT, dF, nL]); (repeat refine Ai ?_); (try (refine hK _ ?_; clear hK K)); try refine iC ?_)
  refine Bv (As (!inS a.states x)) hS trivial ?_ ?_ fun j hj => ?_
  ·rw [e]
   rfl
  ·rfl
  ·rfl
 by_cases h2 : a.states ≤ x
 ·have e : inS a.states x = false := Hl (Or.inr h2)
  repeat' with_reducible first | refine W ?_ | refine Z0 ?_ | ((first | refine Wo fun K hK => ?_ | refine Wp ?_ | refine Wq ?_ | refine Wr ?_); (try simp only [go_sem, fN, seval, eT, iR, sb, h1, h2, dT, dF, nL]); (repeat refine Ai ?_); (try (refine hK _ ?_; clear hK K)); try refine iC ?_)
  refine Bv (As (!inS a.states x)) hS trivial ?_ ?_ fun j hj => ?_
  ·rw [e]
   rfl
  ·rfl
  ·rfl
 ·have e : inS a.states x = true := I2 h1 h2
  repeat' with_reducible first | refine W ?_ | refine Z0 ?_ | ((first | refine Wo fun K hK => ?_ | refine Wp ?_ | refine Wq ?_ | refine Wr ?_); (try simp only [go_sem, fN, seval, eT, iR, sb, h1, h2, dT, dF, nL]); (repeat refine Ai ?_); (try (refine hK _ ?_; clear hK K)); try refine iC ?_)
  refine Bv (As (!inS a.states x)) hS trivial ?_ ?_ fun j hj => ?_
  ·rw [e]
   rfl
  ·rfl
  ·rfl
theorem Rf {p : Int → Bool} (xs : List Int) : 0 ≤ (match xs.findIdx? p with | some i => (i : Int) | none => -1) ↔ xs.any p = true := by
 cases h : xs.findIdx? p with
 | some i =>
  rw [List.findIdx?_eq_some_iff_getElem] at h
  obtain ⟨h1, h2, _⟩ := h
  simp only [List.any_eq_true]
  exact ⟨fun _ => ⟨_, List.getElem_mem h1, h2⟩, fun _ => by omega⟩
 | none =>
  rw [List.findIdx?_eq_none_iff] at h
  constructor
  ·intro h'
   exact absurd h' (by decide)
  ·intro h'
   rw [List.any_eq_true] at h'
   obtain ⟨x, hx, hp⟩ := h'
   rw [h x hx] at hp
   cases hp
theorem ND {p : Int → Bool} {xs : List Int} {k : Nat} {x : Int} (hx : xs[k]? = some x) (h : (xs.take k).any p = false) (hp : p x = true) : xs.findIdx? p = some k := by
 obtain ⟨hk, he⟩ := List.getElem?_eq_some_iff.1 hx
 rw [List.findIdx?_eq_some_iff_getElem]
 refine ⟨hk, by rw [he]; exact hp, fun j hj => ?_⟩
 rw [List.any_eq_false] at h
 have := h (xs[j]'(by omega)) (by
  rw [List.mem_take_iff_getElem]
  exact ⟨j, by omega, rfl⟩)
 simpa using this
theorem K0 (a : Au) (xs : List Int) (hl : xs.length ≤ 9223372036854775807) (b : Nat) (hb : 1000 ≤ b) (S : AA) (sb : S b = some (AL a)) :
  BO Try.prog 87 [N_ xs, .one (.fn 72 [.ptr b 1 0 0])] S (AN (match xs.findIdx? (fun x => !inS a.states x) with | some i => (i : Int) | none => -1)) S := by
 refine C_.acS fun hS C hC => ?_
 unfold Bo
 repeat' with_reducible first | refine W ?_ | refine Z0 ?_ | ((first | refine Wo fun K hK => ?_ | refine Wp ?_ | refine Wq ?_ | refine Wr ?_); (try simp only [go_sem, fN, seval, eT, iR, dT, dF, nL]); (repeat refine Ai ?_); (try (refine hK _ ?_; clear hK K)); try refine iC ?_)
 refine IWP.loop (fun n s => ∃ k, k ≤ xs.length ∧ n = xs.length - k ∧ (xs.take k).any (fun x => !inS a.states x) = false ∧ s.env 0 = N_ xs ∧ s.env 1 = .one (.fn 72 [.ptr b 1 0 0]) ∧ s.env 7 = AN xs.length ∧ s.env 8 = AN k ∧ s.S = S) xs.length ⟨0, Nat.zero_le _, rfl, rfl, rfl, rfl, rfl, rfl, rfl⟩ ?_
 rintro n ⟨env, S'⟩ ⟨k, hk, rfl, hp, e0, e1, e7, e8, eS⟩
 simp only at e0 e1 e7 e8 eS
 subst eS
 by_cases hlt : (k : Int) < xs.length
 ·obtain ⟨x, hx⟩ := Ad (show k < xs.length by omega)
  have hst := Gt (p := fun x => !inS a.states x) hx hp
  have hc := NG a x (up1 b) (BY b) (upS S') (by rw [Bt, sb]; rfl)
  repeat' with_reducible first | refine W ?_ | refine Z0 ?_ | ((first | refine Wo fun K hK => ?_ | refine Wp ?_ | refine Wq ?_ | refine Wr ?_); (try simp only [go_sem, fN, seval, eT, iR, e0, e1, e7, e8, hlt, hx, dT, dF, nL]); (repeat refine Ai ?_); (try (refine hK _ ?_; clear hK K)); try refine iC ?_)
  first | refine ⟨by kernel_rfl, _, _, hc, ?_⟩ | refine ⟨_, _, hc, ?_⟩
  by_cases hr : (!inS a.states x) = true
  ·have hi := ND (p := fun x => !inS a.states x) hx hp hr
   repeat' with_reducible first | refine W ?_ | refine Z0 ?_ | ((first | refine Wo fun K hK => ?_ | refine Wp ?_ | refine Wq ?_ | refine Wr ?_); (try simp only [go_sem, fN, seval, eT, iR, e0, e1, e7, e8, hr, dT, dF, nL]); (repeat refine Ai ?_); (try (refine hK _ ?_; clear hK K)); try refine iC ?_)
   refine Bv (AN k) hS trivial ?_ ?_ fun j hj => ?_
   ·simp [AI, AJ, AW, AF]
   ·rw [hi]
    rfl
   ·rfl
  ·have hr' : (!inS a.states x) = false := by simpa using hr
   repeat' with_reducible first | refine W ?_ | refine Z0 ?_ | ((first | refine Wo fun K hK => ?_ | refine Wp ?_ | refine Wq ?_ | refine Wr ?_); (try simp only [go_sem, fN, seval, eT, iR, e0, e1, e7, e8, hr', dT, dF, nL]); (repeat refine Ai ?_); (try (refine hK _ ?_; clear hK K)); try refine iC ?_)
   refine AE ⟨xs.length - (k + 1), by omega, k + 1, by omega, rfl, ?_⟩
   simp only [go_sem, fN, seval, eT, iR, e0, e1, e7, e8]
   exact ⟨by rw [hst]; exact hr', by congr 3⟩
 ·rw [List.take_of_length_le (by omega)] at hp
  have hi : xs.findIdx? (fun x => !inS a.states x) = none := by
   rw [List.findIdx?_eq_none_iff]
   intro x hx
   rw [List.any_eq_false] at hp
   simpa using hp x hx
  repeat' with_reducible first | refine W ?_ | refine Z0 ?_ | ((first | refine Wo fun K hK => ?_ | refine Wp ?_ | refine Wq ?_ | refine Wr ?_); (try simp only [go_sem, fN, seval, eT, iR, e0, e1, e7, e8, hlt, dT, dF, nL]); (repeat refine Ai ?_); (try (refine hK _ ?_; clear hK K)); try refine iC ?_)
  refine Bv (AN (-1)) hS trivial ?_ ?_ fun j hj => ?_
  ·simp [AI, AJ, AW, AF]
  ·rw [hi]
   rfl
  ·rfl
theorem Hf (a : Au) (xs : List Int) (hl : xs.length ≤ 9223372036854775807) (b : Nat) (hb : 1000 ≤ b) (S : AA) (sb : S b = some (AL a)) :
  BO Try.prog 71 [N_ xs, .one (.fn 72 [.ptr b 1 0 0])] S (As (!xs.all (inS a.states))) S := by
 have hi := Rf (p := fun x => !inS a.states x) xs
 rw [List.not_all_eq_any_not]
 generalize (xs.any fun x => !inS a.states x) = bb at hi ⊢
 refine Ch.acS fun hS C hC => ?_
 unfold BU
 repeat' with_reducible first | refine W ?_ | refine Z0 ?_ | ((first | refine Wo fun K hK => ?_ | refine Wp ?_ | refine Wq ?_ | refine Wr ?_); (try simp only [go_sem, fN, seval, eT, iR, dT, dF, nL]); (repeat refine Ai ?_); (try (refine hK _ ?_; clear hK K)); try refine iC ?_)
 refine ⟨_, _, K0 a xs hl (up1 b) (BY b) (upS S) (by rw [Bt, sb]; rfl), ?_⟩
 generalize (match xs.findIdx? (fun x => !inS a.states x) with | some i => (i : Int) | none => -1) = q at hi
 repeat' with_reducible first | refine W ?_ | refine Z0 ?_ | ((first | refine Wo fun K hK => ?_ | refine Wp ?_ | refine Wq ?_ | refine Wr ?_); (try simp only [go_sem, fN, seval, eT, iR, hi, dT, dF, nL]); (repeat refine Ai ?_); (try (refine hK _ ?_; clear hK K)); try refine iC ?_)
 refine Bv (As bb) hS trivial ?_ ?_ fun j hj => ?_
 ·simp [AI, AJ, AW, AF]
 ·rfl
 ·rfl
theorem Nu {S : Int} {m : Mv} (h1 : A8 m.name = true) (h2 : ¬ Cs m.name = true) (h3 : ¬ 4 < m.frm.length) {s : Int} (hs : s ∈ m.frm ++ [m.to_]) (h : s < 0 ∨ S ≤ s) : m.err S = 10 := by
 rcases List.mem_append.1 hs with hs | hs
 ·exact Kz h1 h2 h3 hs h
 ·rw [List.mem_singleton] at hs
  subst hs
  exact NI h1 h2 h3 h
theorem Rd {S : Int} {m : Mv} (h1 : A8 m.name = true) (h2 : ¬ Cs m.name = true) (h3 : ¬ 4 < m.frm.length) (h : (m.frm ++ [m.to_]).all (inS S) = true) : m.err S = 0 := by
 rw [List.all_append, Bool.and_eq_true] at h
 exact L4 h1 h2 h3 h.1 (by simpa using h.2)
theorem PR (a : Au) (S M : Int) : Ap Try.prog 56 [aAu a, AN S, AN M] (AN (a.may S M)) := by
 by_cases h1 : a.states < 0
 ·have e : a.may S M = 3 := if_pos (Or.inl h1)
  rw [e]
  refine B8.ac fun C hC => ?_
  unfold Bc
  repeat' with_reducible first | refine W ?_ | refine Z0 ?_ | ((first | refine Wo fun K hK => ?_ | refine Wp ?_ | refine Wq ?_ | refine Wr ?_); (try simp only [go_sem, fN, seval, eT, iR, h1, dT, dF, nL]); (repeat refine Ai ?_); (try (refine hK _ ?_; clear hK K)); try refine iC ?_)
  simp only [go_sem, fN, seval, Ab, AS.result, AI, AJ, AW]
 by_cases h2 : S < a.states
 ·have e : a.may S M = 3 := if_pos (Or.inr (Or.inl h2))
  rw [e]
  refine B8.ac fun C hC => ?_
  unfold Bc
  repeat' with_reducible first | refine W ?_ | refine Z0 ?_ | ((first | refine Wo fun K hK => ?_ | refine Wp ?_ | refine Wq ?_ | refine Wr ?_); (try simp only [go_sem, fN, seval, eT, iR, h1, h2, dT, dF, nL]); (repeat refine Ai ?_); (try (refine hK _ ?_; clear hK K)); try refine iC ?_)
  simp only [go_sem, fN, seval, Ab, AS.result, AI, AJ, AW]
 by_cases h3 : M < a.moves.length
 ·have e : a.may S M = 3 := if_pos (Or.inr (Or.inr h3))
  rw [e]
  refine B8.ac fun C hC => ?_
  unfold Bc
  repeat' with_reducible first | refine W ?_ | refine Z0 ?_ | ((first | refine Wo fun K hK => ?_ | refine Wp ?_ | refine Wq ?_ | refine Wr ?_); (try simp only [go_sem, fN, seval, eT, iR, h1, h2, h3, dT, dF, nL]); (repeat refine Ai ?_); (try (refine hK _ ?_; clear hK K)); try refine iC ?_)
  simp only [go_sem, fN, seval, Ab, AS.result, AI, AJ, AW]
 have h0 : ¬ (a.states < 0 ∨ S < a.states ∨ M < a.moves.length) := by omega
 refine B8.ac fun C hC => ?_
 unfold Bc
 refine IWP.learn 0 (by omega) fun hkn => ?_
 obtain ⟨kM, kL, kF⟩ := GK hkn
 repeat' with_reducible first | refine W ?_ | refine Z0 ?_ | ((first | refine Wo fun K hK => ?_ | refine Wp ?_ | refine Wq ?_ | refine Wr ?_); (try simp only [go_sem, fN, seval, eT, iR, h1, h2, h3, dT, dF, nL]); (repeat refine Ai ?_); (try (refine hK _ ?_; clear hK K)); try refine iC ?_)
 refine IWP.loopD [8, 49] (fun n s => ∃ k, k ≤ a.moves.length ∧ n = a.moves.length - k ∧ s.env 3 = .one (.ptr 3 1 0 0) ∧ s.S 3 = some (AL a) ∧ s.env 28 = .one (.st (.list (a.moves.map Aj))) ∧ s.env 29 = AN a.moves.length ∧ s.env 30 = AN k ∧ s.S 8 = none ∧ s.S 49 = none ∧ BC a.states (a.moves.take k) = 0) a.moves.length ⟨0, Nat.zero_le _, rfl, rfl, rfl, rfl, rfl, rfl, rfl, rfl, rfl⟩ ?_
 rintro n ⟨env, St⟩ ⟨k, hk, rfl, e3, s3, e28, e29, e30, s8, s49, hno⟩
 simp only at e3 s3 e28 e29 e30 s8 s49
 unfold AL at s3
 by_cases hlt : (k : Int) < a.moves.length
 ·obtain ⟨m, hm⟩ := Ad (show k < a.moves.length by omega)
  have hmm := AR hm
  have hst := Df hm hno
  by_cases g1 : A8 m.name = true
  case neg =>
   have e := Bi h0 hm hno (MV g1) (by decide)
   repeat' (first | (with_reducible first | refine W ?_ | refine Z0 ?_ | ((first | refine Wo fun K hK => ?_ | refine Wp ?_ | refine Wq ?_ | refine Wr ?_); (try simp only [go_sem, fN, seval, eT, iR, e3, s3, e28, e29, e30, s8, s49, hlt, hm, Aj, g1, dT, dF, nL]); (repeat refine Ai ?_); (try (refine hK _ ?_; clear hK K)); try refine iC ?_)) | refine Cg _ (Kv m.name) ?_)
   simp only [go_sem, fN, seval, Ab, AS.result, AI, AJ, AW, e]
  case pos =>
  by_cases g2 : Cs m.name = true
  ·have e := Bi h0 hm hno (OH g2) (by decide)
   repeat' (first | (with_reducible first | refine W ?_ | refine Z0 ?_ | ((first | refine Wo fun K hK => ?_ | refine Wp ?_ | refine Wq ?_ | refine Wr ?_); (try simp only [go_sem, fN, seval, eT, iR, e3, s3, e28, e29, e30, s8, s49, hlt, hm, Aj, g1, g2, dT, dF, nL]); (repeat refine Ai ?_); (try (refine hK _ ?_; clear hK K)); try refine iC ?_)) | refine Cg _ (Kv m.name) ?_ | refine Cg _ (Fr m.name) ?_)
   simp only [go_sem, fN, seval, Ab, AS.result, AI, AJ, AW, e]
  by_cases g3 : (4 : Int) < m.frm.length
  ·have e := Bi h0 hm hno (OJ g1 g2 (by omega)) (by decide)
   repeat' (first | (with_reducible first | refine W ?_ | refine Z0 ?_ | ((first | refine Wo fun K hK => ?_ | refine Wp ?_ | refine Wq ?_ | refine Wr ?_); (try simp only [go_sem, fN, seval, eT, iR, e3, s3, e28, e29, e30, s8, s49, hlt, hm, Aj, g1, g2, g3, dT, dF, nL]); (repeat refine Ai ?_); (try (refine hK _ ?_; clear hK K)); try refine iC ?_)) | refine Cg _ (Kv m.name) ?_ | refine Cg _ (Fr m.name) ?_)
   simp only [go_sem, fN, seval, Ab, AS.result, AI, AJ, AW, e]
  have g3' : ¬ 4 < m.frm.length := by omega
  have gb : (m.frm.length + 1) * 8 ≤ 140737488355328 := by omega
  repeat' (first | (with_reducible first | refine W ?_ | refine Z0 ?_ | ((first | refine Wo fun K hK => ?_ | refine Wp ?_ | refine Wq ?_ | refine Wr ?_); (try simp only [go_sem, fN, seval, eT, iR, e3, s3, e28, e29, e30, s8, s49, hlt, hm, Aj, g1, g2, g3, dT, dF, nL]); (repeat refine Ai ?_); (try (refine hK _ ?_; clear hK K)); try refine iC ?_)) | refine Cg _ (Kv m.name) ?_ | refine Cg _ (Fr m.name) ?_)
  refine ⟨_, _, _, _, Qv m.frm (by omega), by simp [AF, s49], ?_⟩
  repeat' with_reducible first | refine W ?_ | refine Z0 ?_ | ((first | refine Wo fun K hK => ?_ | refine Wp ?_ | refine Wq ?_ | refine Wr ?_); (try simp only [go_sem, fN, seval, eT, iR, e3, s3, e28, e29, e30, s8, s49, gb, dT, dF, nL]); (repeat refine Ai ?_); (try (refine hK _ ?_; clear hK K)); try refine iC ?_)
  have kFm : (m.frm ++ [m.to_]).length = m.frm.length + 1 := by simp
  refine IWP.loop (fun n s => ∃ j, j ≤ m.frm.length + 1 ∧ n = m.frm.length + 1 - j ∧ s.env 3 = .one (.ptr 3 1 0 0) ∧ s.S 3 = some (AL a) ∧ s.env 28 = .one (.st (.list (a.moves.map Aj))) ∧ s.env 29 = AN a.moves.length ∧ s.env 30 = AN k ∧ s.env 53 = .one (.row 49 (m.frm.length + 1)) ∧ s.S 49 = some (.arow 3 1 ((m.frm ++ [m.to_]).map Cz)) ∧ s.env 54 = AN ((m.frm.length + 1 : Nat) : Int) ∧ s.env 55 = AN j ∧ ((m.frm ++ [m.to_]).take j).all (inS a.states) = true) (m.frm.length + 1) ⟨0, Nat.zero_le _, rfl, by simpa [AF] using e3, by simpa [AF, AL] using s3, by simpa [AF] using e28, by simpa [AF] using e29, by simpa [AF] using e30, by simp [AF], by simp [AF], by simp [AF], by simp [AF], rfl⟩ ?_
  rintro n ⟨env2, S2⟩ ⟨j, hj, rfl, f3, t3, f28, f29, f30, f53, t49, f54, f55, hall⟩
  simp only at f3 t3 f28 f29 f30 f53 t49 f54 f55
  unfold AL at t3
  by_cases hjl : (j : Int) < ((m.frm.length + 1 : Nat) : Int)
  ·obtain ⟨s, hs⟩ := Ad (show j < (m.frm ++ [m.to_]).length by omega)
   have hst2 := CZ hs hall
   generalize hL : m.frm ++ [m.to_] = L at *
   have kL' : ¬ m.frm.length + 1 < L.length := by omega
   by_cases g4 : s < 0
   ·have e := Bi h0 hm hno (Nu g1 g2 g3' (by rw [hL]; exact AR hs) (Or.inl g4)) (by decide)
    repeat' with_reducible first | refine W ?_ | refine Z0 ?_ | ((first | refine Wo fun K hK => ?_ | refine Wp ?_ | refine Wq ?_ | refine Wr ?_); (try simp only [go_sem, fN, seval, eT, iR, f3, t3, f28, f29, f30, f53, t49, f54, f55, hjl, hs, g4, kFm, dT, dF, nL]); (repeat refine Ai ?_); (try (refine hK _ ?_; clear hK K)); try refine iC ?_)
    simp only [go_sem, fN, seval, Ab, AS.result, AI, AJ, AW, e]
   by_cases g5 : a.states ≤ s
   ·have e := Bi h0 hm hno (Nu g1 g2 g3' (by rw [hL]; exact AR hs) (Or.inr g5)) (by decide)
    repeat' with_reducible first | refine W ?_ | refine Z0 ?_ | ((first | refine Wo fun K hK => ?_ | refine Wp ?_ | refine Wq ?_ | refine Wr ?_); (try simp only [go_sem, fN, seval, eT, iR, f3, t3, f28, f29, f30, f53, t49, f54, f55, hjl, hs, g4, g5, kFm, dT, dF, nL]); (repeat refine Ai ?_); (try (refine hK _ ?_; clear hK K)); try refine iC ?_)
    simp only [go_sem, fN, seval, Ab, AS.result, AI, AJ, AW, e]
   ·repeat' with_reducible first | refine W ?_ | refine Z0 ?_ | ((first | refine Wo fun K hK => ?_ | refine Wp ?_ | refine Wq ?_ | refine Wr ?_); (try simp only [go_sem, fN, seval, eT, iR, f3, t3, f28, f29, f30, f53, t49, f54, f55, hjl, hs, g4, g5, kFm, dT, dF, nL]); (repeat refine Ai ?_); (try (refine hK _ ?_; clear hK K)); try refine iC ?_)
    refine AE ⟨m.frm.length + 1 - (j + 1), by omega, j + 1, by omega, rfl, ?_⟩
    simp only [go_sem, fN, seval, eT, iR, f3, t3, f28, f29, f30, f53, t49, f54, f55]
    exact ⟨rfl, by congr 3, by rw [hst2]; exact I2 g4 g5⟩
  ·rw [List.take_of_length_le (by omega)] at hall
   repeat' with_reducible first | refine W ?_ | refine Z0 ?_ | ((first | refine Wo fun K hK => ?_ | refine Wp ?_ | refine Wq ?_ | refine Wr ?_); (try simp only [go_sem, fN, seval, eT, iR, f3, t3, f28, f29, f30, f53, t49, f54, f55, hjl, dT, dF, nL]); (repeat refine Ai ?_); (try (refine hK _ ?_; clear hK K)); try refine iC ?_)
   refine AE ⟨a.moves.length - (k + 1), by omega, k + 1, by omega, rfl, ?_⟩
   simp only [go_sem, fN, seval, AS.drop, AU, AC.clears, AC.clear, AC.highs, AC.high, Bool.not_false, Bool.true_and, Bool.and_self, AV.purge, AV.purges, AC.purge, AH.purge, List.contains_cons, List.contains_nil, Nat.reduceBEq, Bool.or_self, Bool.or_false, Bool.false_or, Bool.or_true, eT, iR, f3, t3, f28, f29, f30, f53, t49, f54, f55]
   exact ⟨rfl, by congr 3, by rw [hst]; exact Rd g1 g2 g3' hall⟩
 ·rw [List.take_of_length_le (by omega)] at hno
  have e := LL (S := S) (M := M) h0 hno
  repeat' with_reducible first | refine W ?_ | refine Z0 ?_ | ((first | refine Wo fun K hK => ?_ | refine Wp ?_ | refine Wq ?_ | refine Wr ?_); (try simp only [go_sem, fN, seval, eT, iR, e3, s3, e28, e29, e30, hlt, AS.caps, dT, dF, nL]); (repeat refine Ai ?_); (try (refine hK _ ?_; clear hK K)); try refine iC ?_)
  refine ⟨_, _, Hf a a.last (by omega) (up1 3) (BY 3) _ (by rw [Bt, s3]; rfl), ?_⟩
  by_cases hall : a.last.all (inS a.states) = true
  ·rw [hall, if_pos rfl] at e
   repeat' with_reducible first | refine W ?_ | refine Z0 ?_ | ((first | refine Wo fun K hK => ?_ | refine Wp ?_ | refine Wq ?_ | refine Wr ?_); (try simp only [go_sem, fN, seval, eT, iR, e3, s3, e28, e29, e30, hall, dT, dF, nL]); (repeat refine Ai ?_); (try (refine hK _ ?_; clear hK K)); try refine iC ?_)
   simp only [go_sem, fN, seval, Ab, AS.result, AI, AJ, AW, e]
  ·have hall' : a.last.all (inS a.states) = false := by simpa using hall
   rw [hall', if_neg (by decide)] at e
   repeat' with_reducible first | refine W ?_ | refine Z0 ?_ | ((first | refine Wo fun K hK => ?_ | refine Wp ?_ | refine Wq ?_ | refine Wr ?_); (try simp only [go_sem, fN, seval, eT, iR, e3, s3, e28, e29, e30, hall', dT, dF, nL]); (repeat refine Ai ?_); (try (refine hK _ ?_; clear hK K)); try refine iC ?_)
   simp only [go_sem, fN, seval, Ab, AS.result, AI, AJ, AW, e]
theorem DF (a : Au) : Ap Try.prog 34 [aAu a] (AN (a.may 8 40)) := by
 refine JM.ac fun C hC => ?_
 unfold Ff
 repeat' (first | (with_reducible first | refine W ?_ | refine Z0 ?_ | ((first | refine Wo fun K hK => ?_ | refine Wp ?_ | refine Wq ?_ | refine Wr ?_); (try simp only [go_sem, fN, seval, eT, iR, dT, dF, nL]); (repeat refine Ai ?_); (try (refine hK _ ?_; clear hK K)); try refine iC ?_)) | refine Cg _ (PR a 8 40) ?_)
 simp only [go_sem, fN, seval, Ab, AS.result, AI, AJ, AW]
def BN (a b : Au) : Int := if a.may 8 40 = 0 then b.may 8 40 else a.may 8 40
theorem Rv (a b : Au) : Ap Try.prog 29 [aAu a, aAu b] (AN (BN a b)) := by
 unfold BN
 by_cases h : a.may 8 40 = 0
 ·rw [if_pos h]
  refine GX.ac fun C hC => ?_
  unfold ES
  repeat' (first | (with_reducible first | refine W ?_ | refine Z0 ?_ | ((first | refine Wo fun K hK => ?_ | refine Wp ?_ | refine Wq ?_ | refine Wr ?_); (try simp only [go_sem, fN, seval, eT, iR, h, dT, dF, nL]); (repeat refine Ai ?_); (try (refine hK _ ?_; clear hK K)); try refine iC ?_)) | refine Cg _ (DF a) ?_ | refine Cg _ (DF b) ?_)
  simp only [go_sem, fN, seval, Ab, AS.result, AI, AJ, AW]
 ·rw [if_neg h]
  refine GX.ac fun C hC => ?_
  unfold ES
  repeat' (first | (with_reducible first | refine W ?_ | refine Z0 ?_ | ((first | refine Wo fun K hK => ?_ | refine Wp ?_ | refine Wq ?_ | refine Wr ?_); (try simp only [go_sem, fN, seval, eT, iR, h, dT, dF, nL]); (repeat refine Ai ?_); (try (refine hK _ ?_; clear hK K)); try refine iC ?_)) | refine Cg _ (DF a) ?_)
  simp only [go_sem, fN, seval, Ab, AS.result, AI, AJ, AW]

set_option maxHeartbeats 2000000


theorem Fk : ∀ {bs : List (List Bool)} {ss : List Int} {j : Nat} {b : List Bool} {s : Int}, bs[j]? = some b → ss[j]? = some s → CD (bs.take (j + 1)) (ss.take (j + 1)) = (CD (bs.take j) (ss.take j) && b.getD s.toNat false)
 | b0 :: bs, s0 :: ss, 0, b, s, hb, hs => by
  simp at hb hs
  subst hb hs
  simp [CD]
 | b0 :: bs, s0 :: ss, j + 1, b, s, hb, hs => by
  simp only [List.take_succ_cons, CD]
  rw [Fk (by simpa using hb) (by simpa using hs), Bool.and_assoc]
 | [], _, _, _, _, hb, _ => by simp at hb
 | _ :: _, [], _, _, _, _, hs => by simp at hs
theorem HE : ∀ {bs : List (List Bool)} {ss : List Int}, ¬ ss.length = bs.length → CD bs ss = false
 | [], [], h => absurd rfl h
 | [], _ :: _, _ => rfl
 | _ :: _, [], _ => rfl
 | b :: bs, s :: ss, h => by
  rw [CD, HE (fun e => h (by simp [e]))]
  simp
theorem SE {l : List Bool} {i : Nat} (h : i < l.length) : ∃ b, l[i]? = some b ∧ l.getD i false = b := by
 refine ⟨l[i], List.getElem?_eq_getElem h, ?_⟩
 rw [List.getD_eq_getElem?_getD, List.getElem?_eq_getElem h]
 rfl
theorem Pm (a : Au) (ga : a.Good) (hs64 : a.states ≤ 64) (hm : a.moves.length ≤ 100000) (n : ByteArray) (below : List (List Bool)) (hb : ∀ l ∈ below, l.length = a.states.toNat) (hbl : below.length ≤ 1000000) :
  Ap Try.prog 52 [aAu a, FO n, SD below] (Gr (a.ending n below)) := by
 have hst := ga.states
 refine L3.ac fun C hC => ?_
 unfold HX
 repeat' with_reducible first | refine W ?_ | refine Z0 ?_ | ((first | refine Wo fun K hK => ?_ | refine Wp ?_ | refine Wq ?_ | refine Wr ?_); (try simp only [go_sem, fN, seval, eT, iR, dT, dF, nL]); (repeat refine Ai ?_); (try (refine hK _ ?_; clear hK K)); try refine iC ?_)
 refine IWP.loopD [9] (fun q s => ∃ k, k ≤ a.moves.length ∧ q = a.moves.length - k ∧ s.env 1 = FO n ∧ s.env 2 = SD below ∧ s.env 3 = .one (.ptr 3 1 0 0) ∧ s.S 3 = some (AL a) ∧ s.env 7 = .one (.row 14 a.states.toNat) ∧ s.S 14 = some (.mrow 4 1 (((a.moves.take k).foldl (Bm n below) (List.replicate a.states.toNat false)).map Md)) ∧ s.env 8 = AN k ∧ s.S 9 = none) a.moves.length
  ⟨0, Nat.zero_le _, rfl, rfl, rfl, rfl, rfl, by simp [AF], by simp [AF], rfl, rfl⟩ ?_
 rintro q ⟨env, St⟩ ⟨k, hk, rfl, e1, e2, e3, s3, e7, s7, e8, s9⟩
 simp only at e1 e2 e3 s3 e7 s7 e8 s9
 unfold AL at s3
 by_cases hlt : (k : Int) < a.moves.length
 ·obtain ⟨m, hmk⟩ := Ad (show k < a.moves.length by omega)
  have hmm := AR hmk
  have hto := ga.to_ m hmm
  have hfold : (a.moves.take (k + 1)).foldl (Bm n below) (List.replicate a.states.toNat false) = Bm n below ((a.moves.take k).foldl (Bm n below) (List.replicate a.states.toNat false)) m := by
   rw [Af hmk, List.foldl_append]
   rfl
  have hfl := Dd n below (a.moves.take k) (List.replicate a.states.toNat false)
  rw [List.length_replicate] at hfl
  generalize (a.moves.take k).foldl (Bm n below) (List.replicate a.states.toNat false) = L at *
  by_cases g1 : m.name = n
  case neg =>
   have hf : m.fits n below = false := by simp [Mv.fits, g1]
   repeat' with_reducible first | refine W ?_ | refine Z0 ?_ | ((first | refine Wo fun K hK => ?_ | refine Wp ?_ | refine Wq ?_ | refine Wr ?_); (try simp only [go_sem, fN, seval, eT, iR, e1, e2, e3, s3, e7, s7, e8, s9, hlt, hmk, Aj, g1, dT, dF, nL]); (repeat refine Ai ?_); (try (refine hK _ ?_; clear hK K)); try refine iC ?_)
   refine AE ⟨a.moves.length - (k + 1), by omega, k + 1, by omega, rfl, ?_⟩
   simp only [go_sem, fN, seval, AS.drop, AU, AC.clears, AC.clear, AC.highs, AC.high, Bool.not_false, Bool.true_and, Bool.and_self, AV.purge, AV.purges, AC.purge, AH.purge, List.contains_cons, List.contains_nil, Nat.reduceBEq, Bool.or_self, Bool.or_false, Bool.false_or, Bool.or_true, eT, iR, e1, e2, e3, s3, e7, s7, e8, s9, AL]
   simp [hfold, Bm, hf]
  case pos =>
  by_cases g2 : (m.frm.length : Int) = below.length
  case neg =>
   have hf : m.fits n below = false := by
    unfold Mv.fits
    rw [HE (by omega)]
    simp
   repeat' with_reducible first | refine W ?_ | refine Z0 ?_ | ((first | refine Wo fun K hK => ?_ | refine Wp ?_ | refine Wq ?_ | refine Wr ?_); (try simp only [go_sem, fN, seval, eT, iR, e1, e2, e3, s3, e7, s7, e8, s9, hlt, hmk, Aj, g1, g2, dT, dF, nL]); (repeat refine Ai ?_); (try (refine hK _ ?_; clear hK K)); try refine iC ?_)
   refine AE ⟨a.moves.length - (k + 1), by omega, k + 1, by omega, rfl, ?_⟩
   simp only [go_sem, fN, seval, AS.drop, AU, AC.clears, AC.clear, AC.highs, AC.high, Bool.not_false, Bool.true_and, Bool.and_self, AV.purge, AV.purges, AC.purge, AH.purge, List.contains_cons, List.contains_nil, Nat.reduceBEq, Bool.or_self, Bool.or_false, Bool.false_or, Bool.or_true, eT, iR, e1, e2, e3, s3, e7, s7, e8, s9, AL]
   simp [hfold, Bm, hf]
  case pos =>
  have g2' : m.frm.length = below.length := by omega
  repeat' with_reducible first | refine W ?_ | refine Z0 ?_ | ((first | refine Wo fun K hK => ?_ | refine Wp ?_ | refine Wq ?_ | refine Wr ?_); (try simp only [go_sem, fN, seval, eT, iR, e1, e2, e3, s3, e7, s7, e8, s9, hlt, hmk, Aj, g1, g2, dT, dF, nL]); (repeat refine Ai ?_); (try (refine hK _ ?_; clear hK K)); try refine iC ?_)
  refine IWP.loop (fun q s => ∃ j, j ≤ below.length ∧ q = below.length - j ∧ s.env 1 = FO n ∧ s.env 2 = SD below ∧ s.env 3 = .one (.ptr 3 1 0 0) ∧ s.S 3 = some (AL a) ∧ s.env 7 = .one (.row 14 a.states.toNat) ∧ s.S 14 = some (.mrow 4 1 (L.map Md)) ∧ s.env 8 = AN k ∧ s.env 9 = .one (.ptr 9 1 0 0) ∧ s.S 9 = some (.box 46 [.st (.str m.name), .st (.list (m.frm.map Cz)), .st (.int .i64 m.to_)]) ∧ s.env 10 = As (CD (below.take j) (m.frm.take j)) ∧ s.env 11 = AN j) below.length
   ⟨0, Nat.zero_le _, rfl, by simp [AF, e1], by simp [AF, e2], by simp [AF, e3], by simp [AF, AL, s3], by simp [AF, e7], by simp [AF, s7], by simp [AF, e8], by simp [AF], by simp [AF, g1], by simp [AF, CD], by simp [AF]⟩ ?_
  rintro q ⟨env2, S2⟩ ⟨j, hj, rfl, f1, f2, f3, t3, f7, t7, f8, f9, t9, f10, f11⟩
  simp only at f1 f2 f3 t3 f7 t7 f8 f9 t9 f10 f11
  unfold AL at t3
  by_cases hjl : (j : Int) < below.length
  ·obtain ⟨bl, hbj⟩ := Ad (show j < below.length by omega)
   obtain ⟨x, hx⟩ := Ad (show j < m.frm.length by omega)
   have qx := ga.frm m hmm x (AR hx)
   have hbll := hb bl (AR hbj)
   obtain ⟨y, hy, hyd⟩ := SE (show x.toNat < bl.length by omega)
   have hst2 := Fk hbj hx
   rw [hyd] at hst2
   generalize CD (below.take j) (m.frm.take j) = ok at f10 hst2
   cases ok with
   | true =>
    repeat' with_reducible first | refine W ?_ | refine Z0 ?_ | ((first | refine Wo fun K hK => ?_ | refine Wp ?_ | refine Wq ?_ | refine Wr ?_); (try simp only [go_sem, fN, seval, eT, iR, f1, f2, f3, t3, f7, t7, f8, f9, t9, f10, f11, hjl, hbj, hx, hy, dT, dF, nL]); (repeat refine Ai ?_); (try (refine hK _ ?_; clear hK K)); try refine iC ?_)
    refine AE ⟨below.length - (j + 1), by omega, j + 1, by omega, rfl, ?_⟩
    simp only [go_sem, fN, seval, eT, iR, f1, f2, f3, t3, f7, t7, f8, f9, t9, f10, f11, AL]
    simp [hst2]
   | false =>
    repeat' with_reducible first | refine W ?_ | refine Z0 ?_ | ((first | refine Wo fun K hK => ?_ | refine Wp ?_ | refine Wq ?_ | refine Wr ?_); (try simp only [go_sem, fN, seval, eT, iR, f1, f2, f3, t3, f7, t7, f8, f9, t9, f10, f11, hjl, hbj, hx, hy, dT, dF, nL]); (repeat refine Ai ?_); (try (refine hK _ ?_; clear hK K)); try refine iC ?_)
    refine AE ⟨below.length - (j + 1), by omega, j + 1, by omega, rfl, ?_⟩
    simp only [go_sem, fN, seval, eT, iR, f1, f2, f3, t3, f7, t7, f8, f9, t9, f10, f11, AL]
    simp [hst2]
  ·rw [List.take_of_length_le (l := below) (i := j) (by omega), List.take_of_length_le (l := m.frm) (i := j) (by omega)] at f10
   have hf : m.fits n below = CD below m.frm := by simp [Mv.fits, g1]
   have hoo := SE (show m.to_.toNat < L.length by omega)
   obtain ⟨z, hz, _⟩ := hoo
   by_cases g3 : CD below m.frm = true
   ·rw [g3] at f10 hf
    repeat' with_reducible first | refine W ?_ | refine Z0 ?_ | ((first | refine Wo fun K hK => ?_ | refine Wp ?_ | refine Wq ?_ | refine Wr ?_); (try simp only [go_sem, fN, seval, eT, iR, f1, f2, f3, t3, f7, t7, f8, f9, t9, f10, f11, hjl, hz, hfl, dT, dF, nL]); (repeat refine Ai ?_); (try (refine hK _ ?_; clear hK K)); try refine iC ?_)
    refine AE ⟨a.moves.length - (k + 1), by omega, k + 1, by omega, rfl, ?_⟩
    simp only [go_sem, fN, seval, AS.drop, AU, AC.clears, AC.clear, AC.highs, AC.high, Bool.not_false, Bool.true_and, Bool.and_self, AV.purge, AV.purges, AC.purge, AH.purge, List.contains_cons, List.contains_nil, Nat.reduceBEq, Bool.or_self, Bool.or_false, Bool.false_or, Bool.or_true, eT, iR, f1, f2, f3, t3, f7, t7, f8, f9, t9, f10, f11, AL]
    simp [hfold, Bm, hf]
   ·have g3' : CD below m.frm = false := by simpa using g3
    rw [g3'] at f10 hf
    repeat' with_reducible first | refine W ?_ | refine Z0 ?_ | ((first | refine Wo fun K hK => ?_ | refine Wp ?_ | refine Wq ?_ | refine Wr ?_); (try simp only [go_sem, fN, seval, eT, iR, f1, f2, f3, t3, f7, t7, f8, f9, t9, f10, f11, hjl, dT, dF, nL]); (repeat refine Ai ?_); (try (refine hK _ ?_; clear hK K)); try refine iC ?_)
    refine AE ⟨a.moves.length - (k + 1), by omega, k + 1, by omega, rfl, ?_⟩
    simp only [go_sem, fN, seval, AS.drop, AU, AC.clears, AC.clear, AC.highs, AC.high, Bool.not_false, Bool.true_and, Bool.and_self, AV.purge, AV.purges, AC.purge, AH.purge, List.contains_cons, List.contains_nil, Nat.reduceBEq, Bool.or_self, Bool.or_false, Bool.false_or, Bool.or_true, eT, iR, f1, f2, f3, t3, f7, t7, f8, f9, t9, f10, f11, AL]
    simp [hfold, Bm, hf]
 ·rw [List.take_of_length_le (l := a.moves) (i := k) (by omega)] at s7
  have hle : a.ending n below = a.moves.foldl (Bm n below) (List.replicate a.states.toNat false) := rfl
  rw [← hle] at s7
  have hll := a.ending_length n below
  refine IWP.ghost (Ae.share (C := C) (id := 14) s7) ?_
  repeat' with_reducible first | refine W ?_ | refine Z0 ?_ | ((first | refine Wo fun K hK => ?_ | refine Wp ?_ | refine Wq ?_ | refine Wr ?_); (try simp only [go_sem, fN, seval, eT, iR, e1, e2, e3, s3, e7, s7, e8, s9, hlt, dT, dF, nL]); (repeat refine Ai ?_); (try (refine hK _ ?_; clear hK K)); try refine iC ?_)
  simp only [go_sem, fN, seval, Ab, AS.result, AI, AJ, AW, e7, hll]

theorem Rh (a : Au) (l : List Bool) (hl : ∀ s ∈ a.last, 0 ≤ s ∧ s.toNat < l.length) : Ap Try.prog 53 [aAu a, Gr l] (As (a.last.any fun s => l.getD s.toNat false)) := by
 refine M0.ac fun C hC => ?_
 unfold Ig
 refine IWP.learn 0 (by omega) fun hkn => ?_
 obtain ⟨kM, kL, kF⟩ := GK hkn
 repeat' with_reducible first | refine W ?_ | refine Z0 ?_ | ((first | refine Wo fun K hK => ?_ | refine Wp ?_ | refine Wq ?_ | refine Wr ?_); (try simp only [go_sem, fN, seval, eT, iR, dT, dF, nL]); (repeat refine Ai ?_); (try (refine hK _ ?_; clear hK K)); try refine iC ?_)
 refine IWP.loop (fun q s => ∃ k, k ≤ a.last.length ∧ q = a.last.length - k ∧ s.env 1 = Gr l ∧ s.env 2 = .one (.ptr 2 1 0 0) ∧ s.S 2 = some (AL a) ∧ s.env 5 = AN k ∧ (a.last.take k).any (fun s => l.getD s.toNat false) = false) a.last.length ⟨0, Nat.zero_le _, rfl, rfl, rfl, rfl, rfl, rfl⟩ ?_
 rintro q ⟨env, St⟩ ⟨k, hk, rfl, e1, e2, s2, e5, hno⟩
 simp only at e1 e2 s2 e5
 unfold AL at s2
 by_cases hlt : (k : Int) < a.last.length
 ·obtain ⟨x, hx⟩ := Ad (show k < a.last.length by omega)
  have qx := hl x (AR hx)
  obtain ⟨y, hy, hyd⟩ := SE qx.2
  have hst := Gt (p := fun s : Int => l.getD s.toNat false) hx hno
  rw [hyd] at hst
  cases y with
  | true =>
   have hr := OU (p := fun s : Int => l.getD s.toNat false) (k := k + 1) hst
   repeat' with_reducible first | refine W ?_ | refine Z0 ?_ | ((first | refine Wo fun K hK => ?_ | refine Wp ?_ | refine Wq ?_ | refine Wr ?_); (try simp only [go_sem, fN, seval, eT, iR, e1, e2, s2, e5, hlt, hx, hy, dT, dF, nL]); (repeat refine Ai ?_); (try (refine hK _ ?_; clear hK K)); try refine iC ?_)
   simp only [go_sem, fN, seval, Ab, AS.result, AI, AJ, AW, hr]
  | false =>
   repeat' with_reducible first | refine W ?_ | refine Z0 ?_ | ((first | refine Wo fun K hK => ?_ | refine Wp ?_ | refine Wq ?_ | refine Wr ?_); (try simp only [go_sem, fN, seval, eT, iR, e1, e2, s2, e5, hlt, hx, hy, dT, dF, nL]); (repeat refine Ai ?_); (try (refine hK _ ?_; clear hK K)); try refine iC ?_)
   refine AE ⟨a.last.length - (k + 1), by omega, k + 1, by omega, rfl, ?_⟩
   simp only [go_sem, fN, seval, eT, iR, e1, e2, s2, e5, AL]
   exact ⟨by congr 3, hst⟩
 ·rw [List.take_of_length_le (l := a.last) (i := k) (by omega)] at hno
  repeat' with_reducible first | refine W ?_ | refine Z0 ?_ | ((first | refine Wo fun K hK => ?_ | refine Wp ?_ | refine Wq ?_ | refine Wr ?_); (try simp only [go_sem, fN, seval, eT, iR, e1, e2, s2, e5, hlt, dT, dF, nL]); (repeat refine Ai ?_); (try (refine hK _ ?_; clear hK K)); try refine iC ?_)
  simp only [go_sem, fN, seval, Ab, AS.result, AI, AJ, AW, hno]

set_option maxRecDepth 100000
def An : IR :=
 (.seq (.ops [.i 2 (.box 25 (.t 0)), .i 3 (.box 25 (.t 1)), .i 4 (.mov (.c (.one (.st (.bool false)))))]) (.seq (.seq (.ops [.L 13 3 2, .i 14 (.call 7 [.t 13]), .m 15 14, .mk (some 16) (some (15, false)) (.load true 3 (.t 3)) .no, .mk (some 17) (some (15, false)) (.call 7 [.t 16]) .no, .i 18 (.pick (.t 15) (.c (.one (.st (.bool true)))) (.t 17))]) (.cond (.t 18) (.seq (.ops [.i 4 (.mov (.c (.one (.st (.bool true)))))]) .ret) .skip)) (.seq (.ops [.L 19 3 2, .i 20 (.call 8 [.t 19, .n 8, .n 40]), .m 5 20]) (.seq (.ops [.m 21 5, .m 6 21]) (.seq (.seq (.ops [.m 22 6, .i 23 (.bin .eql (.t 22) (.n 0))]) (.cond (.t 23) (.ops [.L 24 3 3, .i 25 (.call 8 [.t 24, .n 8, .n 40]), .m 6 25]) .skip)) (.seq (.seq (.ops [.m 26 5, .i 27 (.bin .eql (.t 26) (.n 0)), .m 28 27, .mk (some 29) (some (28, true)) (.load true 3 (.t 2)) .no, .mk (some 30) (some (28, true)) (.call 9 [.t 29]) .no, .mk (some 31) (some (28, true)) (.un .not (.t 30)) .no, .i 32 (.pick (.t 28) (.t 31) (.c (.one (.st (.bool false)))))]) (.cond (.t 32) (.ops [.i 5 (.mov (.n 3))]) .skip)) (.seq (.seq (.ops [.m 33 6, .i 34 (.bin .eql (.t 33) (.n 0)), .m 35 34, .mk (some 36) (some (35, true)) (.load true 3 (.t 2)) .no, .mk (some 37) (some (35, true)) (.call 9 [.t 36]) .no, .mk (some 38) (some (35, true)) (.un .not (.t 37)) .no, .mk (some 39) (some (35, true)) (.mov (.t 38)) .no, .mk (some 40) (some (39, false)) (.load true 3 (.t 3)) .no, .mk (some 41) (some (39, false)) (.call 9 [.t 40]) .no, .mk (some 42) (some (39, false)) (.un .not (.t 41)) .no, .mk (some 43) (some (35, true)) (.pick (.t 39) (.c (.one (.st (.bool true)))) (.t 42)) .no, .i 44 (.pick (.t 35) (.t 43) (.c (.one (.st (.bool false)))))]) (.cond (.t 44) (.ops [.i 6 (.mov (.n 3))]) .skip)) (.seq (.seq (.ops [.m 45 5, .i 46 (.bin .eql (.t 45) (.n 0)), .m 47 46, .mk (some 48) (some (47, true)) (.fieldAddr 1 (.t 2)) .no, .mk (some 49) (some (47, true)) (.load false 1 (.t 48)) .no, .mk (some 50) (some (47, true)) (.len false (.t 49)) .no, .mk (some 51) (some (47, true)) (.bin .gtr (.t 50) (.n 12)) .no, .i 52 (.pick (.t 47) (.t 51) (.c (.one (.st (.bool false))))), .m 53 52, .mk (some 54) (some (53, false)) (.mov (.t 6)) .no, .mk (some 55) (some (53, false)) (.bin .eql (.t 54) (.n 0)) .no, .mk (some 56) (some (53, false)) (.mov (.t 55)) .no, .mk (some 57) (some (56, true)) (.fieldAddr 1 (.t 3)) .no, .mk (some 58) (some (56, true)) (.load false 1 (.t 57)) .no, .mk (some 59) (some (56, true)) (.len false (.t 58)) .no, .mk (some 60) (some (56, true)) (.bin .gtr (.t 59) (.n 12)) .no, .mk (some 61) (some (53, false)) (.pick (.t 56) (.t 60) (.c (.one (.st (.bool false))))) .no, .i 62 (.pick (.t 53) (.c (.one (.st (.bool true)))) (.t 61))]) (.cond (.t 62) (.seq (.ops [.i 4 (.mov (.c (.one (.st (.bool true)))))]) .ret) .skip)) (.seq (.ops [.i 7 (.mov (.c (.one (.st (.bool false)))))]) (.seq (.ops [.i 8 (.mov (.n 0))]) (.seq (.seq (.ops [.m 63 5, .i 64 (.bin .eql (.t 63) (.n 0))]) (.cond (.t 64) (.ops [.L 65 3 2, .i 66 (.call 10 [.t 65]), .m 8 66]) .skip)) (.seq (.seq (.ops [.m 67 6, .i 68 (.bin .eql (.t 67) (.n 0))]) (.cond (.t 68) (.ops [.L 69 3 2, .L 70 3 3, .i 71 (.call 11 [.t 69, .t 70]), .m 7 71]) .skip)) (.seq (.ops [.L 73 3 2, .L 74 3 3, .i 75 (.call 12 [.t 73, .t 74]), .m 72 75, .i 76 (.extract 0 (.t 72)), .i 77 (.extract 1 (.t 72)), .m 9 76, .m 10 77]) (.seq (.ops [.L 79 3 2, .i 80 (.call 13 [.t 79]), .m 78 80, .i 81 (.extract 0 (.t 78)), .i 82 (.extract 1 (.t 78)), .m 11 81, .m 12 82]) (.seq (.ops [.m 83 9, .m 84 7, .i 85 (.eqB false (.t 83) (.t 84)), .m 86 85, .mk (some 87) (some (86, true)) (.mov (.t 10)) .no, .mk (some 88) (some (86, true)) (.mov (.t 6)) .no, .mk (some 89) (some (86, true)) (.bin .eql (.t 87) (.t 88)) .no, .i 90 (.pick (.t 86) (.t 89) (.c (.one (.st (.bool false))))), .m 91 90, .mk (some 92) (some (91, true)) (.mov (.t 11)) .no, .mk (some 93) (some (91, true)) (.mov (.t 8)) .no, .mk (some 94) (some (91, true)) (.bin .eql (.t 92) (.t 93)) .no, .i 95 (.pick (.t 91) (.t 94) (.c (.one (.st (.bool false))))), .m 96 95, .mk (some 97) (some (96, true)) (.mov (.t 12)) .no, .mk (some 98) (some (96, true)) (.mov (.t 5)) .no, .mk (some 99) (some (96, true)) (.bin .eql (.t 97) (.t 98)) .no, .i 100 (.pick (.t 96) (.t 99) (.c (.one (.st (.bool false))))), .m 4 100]) .ret)))))))))))))))
theorem Ar : OkF Try.prog 3 101 [] An [.t 4] := .of Try.func3 rfl rfl (by kernel_rfl) rfl

def HJ : IR :=
 (.seq (.ops [.i 6 (.box 25 (.t 0)), .i 12 (.mov (.c (.one (.st (.bool false)))))]) (.seq (.seq (.ops [.i 13 (.mov (.n 0))]) (.block 0 (.loop (.seq (.seq (.ops [.m 20 13, .f 21 1 6, .l 22 21, .i 23 (.len false (.t 22)), .i 24 (.bin .lss (.t 20) (.t 23))]) (.cond (.t 24) .skip (.exit 0))) (.seq (.block 1 (.seq (.ops [.f 27 1 6, .l 28 27, .m 29 13, .i 30 (.indexAddr 3 (.t 28) (.t 29)), .f 31 1 30, .l 32 31, .i 33 (.len false (.t 32)), .m 14 33]) (.seq (.seq (.ops [.m 34 14, .i 35 (.bin .eql (.t 34) (.n 0)), .m 36 35, .mk (some 37) (some (36, false)) (.mov (.t 14)) .no, .mk (some 38) (some (36, false)) (.bin .gtr (.t 37) (.n 2)) .no, .i 39 (.pick (.t 36) (.c (.one (.st (.bool true)))) (.t 38))]) (.cond (.t 39) (.exit 1) .skip)) (.seq (.ops [.i 15 (.mov (.n 0))]) (.block 2 (.loop (.seq (.seq (.ops [.m 40 15, .m 41 14, .i 42 (.bin .lss (.t 40) (.t 41))]) (.cond (.t 42) .skip (.exit 2))) (.seq (.block 3 (.seq (.ops [.i 16 (.mov (.n 0))]) (.block 4 (.loop (.seq (.seq (.ops [.m 45 16, .m 46 1, .i 47 (.len false (.t 46)), .i 48 (.bin .lss (.t 45) (.t 47))]) (.cond (.t 48) .skip (.exit 4))) (.seq (.block 5 (.seq (.ops [.f 51 1 6, .l 52 51, .m 53 13, .i 54 (.indexAddr 3 (.t 52) (.t 53)), .f 55 0 54, .l 56 55, .i 57 (.build [.st (.str (ByteArray.mk (#[]))), .full []] [(0, 1, .t 56)]), .i 17 (.alloc 39 [.st (.str (ByteArray.mk (#[]))), .full []]), .s 2 17 57]) (.seq (.ops [.f 58 1 6, .l 59 58, .m 60 13, .i 61 (.indexAddr 3 (.t 59) (.t 60)), .f 62 0 61, .l 63 62, .i 64 (.build [.st (.str (ByteArray.mk (#[]))), .full []] [(0, 1, .t 63)]), .i 18 (.alloc 39 [.st (.str (ByteArray.mk (#[]))), .full []]), .s 2 18 64]) (.seq (.seq (.ops [.i 19 (.mov (.n 0))]) (.block 6 (.loop (.seq (.seq (.ops [.m 65 19, .m 66 14, .i 67 (.bin .lss (.t 65) (.t 66))]) (.cond (.t 67) .skip (.exit 6))) (.seq (.block 7 (.seq (.ops [.m 70 19, .m 71 15, .i 72 (.bin .eql (.t 70) (.t 71))]) (.cond (.t 72) (.seq (.ops [.f 73 1 17, .l 74 73, .m 75 1, .m 76 4, .i 77 (.indexAddr 2 (.t 75) (.t 76)), .L 78 2 77, .i 79 (.buildSlice false 39 2 [.t 78]), .i 80 (.append false 39 2 40 (.t 74) (.t 79)), .f 81 1 17, .s 1 81 80]) (.ops [.f 82 1 18, .l 83 82, .m 84 1, .m 85 5, .i 86 (.indexAddr 2 (.t 84) (.t 85)), .L 87 2 86, .i 88 (.buildSlice false 39 2 [.t 87]), .i 89 (.append false 39 2 40 (.t 83) (.t 88)), .f 90 1 18, .s 1 90 89])) (.seq (.ops [.f 91 1 17, .l 92 91, .m 93 1, .m 94 16, .i 95 (.indexAddr 2 (.t 93) (.t 94)), .L 96 2 95, .i 97 (.buildSlice false 39 2 [.t 96]), .i 98 (.append false 39 2 40 (.t 92) (.t 97)), .f 99 1 17, .s 1 99 98]) (.ops [.f 100 1 18, .l 101 100, .m 102 1, .m 103 16, .i 104 (.indexAddr 2 (.t 102) (.t 103)), .L 105 2 104, .i 106 (.buildSlice false 39 2 [.t 105]), .i 107 (.append false 39 2 40 (.t 101) (.t 106)), .f 108 1 18, .s 1 108 107]))))) (.ops [.m 68 19, .i 69 (.bin .add (.t 68) (.n 1)), .m 19 69])))))) (.seq (.ops [.m 109 3, .m 110 2, .L 111 3 6, .L 112 2 17, .i 113 (.call 26 [.t 111, .t 112]), .i 114 (.call 25 [.t 113]), .i 115 (.lookup none false (.one (.st (.int .i64 0))) (.t 110) (.t 114)), .i 116 (.indexAddr 1 (.t 109) (.t 115)), .l 117 116, .m 118 2, .L 119 3 6, .L 120 2 18, .i 121 (.call 26 [.t 119, .t 120]), .i 122 (.call 25 [.t 121]), .i 123 (.lookup none false (.one (.st (.int .i64 0))) (.t 118) (.t 122)), .i 124 (.indexAddr 1 (.t 117) (.t 123)), .l 125 124]) (.cond (.t 125) (.seq (.ops [.i 12 (.mov (.c (.one (.st (.bool true)))))]) .ret) .skip)))))) (.ops [.m 49 16, .i 50 (.bin .add (.t 49) (.n 1)), .m 16 50]))))))) (.ops [.m 43 15, .i 44 (.bin .add (.t 43) (.n 1)), .m 15 44]))))))))) (.ops [.m 25 13, .i 26 (.bin .add (.t 25) (.n 1)), .m 13 26])))))) (.seq (.ops [.i 12 (.mov (.c (.one (.st (.bool false)))))]) .ret)))
theorem MS : OkF Try.prog 28 126 [] HJ [.t 12] := .of Try.func28 rfl rfl (by kernel_rfl) rfl
def GG : IR :=
 (.seq (.ops [.i 1 (.box 25 (.t 0)), .i 2 (.mov (.n 0))]) (.seq (.ops [.L 17 3 1, .i 18 (.build [.st (.int .i64 0), .full [], .full []] []), .i 19 (.call 24 [.t 17, .t 18]), .m 3 19]) (.seq (.ops [.m 20 3, .i 21 (.len false (.t 20)), .m 4 21]) (.seq (.ops [.i 22 (.makeMap none), .m 5 22]) (.seq (.seq (.ops [.i 6 (.mov (.n 0))]) (.block 0 (.loop (.seq (.seq (.ops [.m 23 6, .m 24 4, .i 25 (.bin .lss (.t 23) (.t 24))]) (.cond (.t 25) .skip (.exit 0))) (.seq (.block 1 (.ops [.m 28 5, .L 29 3 1, .m 30 3, .m 31 6, .i 32 (.indexAddr 2 (.t 30) (.t 31)), .L 33 2 32, .i 34 (.call 26 [.t 29, .t 33]), .i 35 (.call 25 [.t 34]), .m 36 6, .mk none none (.mapSet none (.t 28) (.t 35) (.t 36)) .no])) (.ops [.m 26 6, .i 27 (.bin .add (.t 26) (.n 1)), .m 6 27])))))) (.seq (.ops [.m 37 4, .i 38 (.makeSlice 55 1 24 [.list []] (.t 37) (.t 37)), .m 7 38]) (.seq (.seq (.ops [.i 8 (.mov (.n 0))]) (.block 2 (.loop (.seq (.seq (.ops [.m 39 8, .m 40 4, .i 41 (.bin .lss (.t 39) (.t 40))]) (.cond (.t 41) .skip (.exit 2))) (.seq (.block 3 (.seq (.ops [.m 44 7, .m 45 8, .m 46 4, .i 47 (.makeSlice 4 1 1 [.bool false] (.t 46) (.t 46)), .i 48 (.indexAddr 1 (.t 44) (.t 45)), .s 1 48 47]) (.seq (.ops [.i 9 (.mov (.n 0))]) (.block 4 (.loop (.seq (.seq (.ops [.m 49 9, .m 50 4, .i 51 (.bin .lss (.t 49) (.t 50))]) (.cond (.t 51) .skip (.exit 4))) (.seq (.block 5 (.ops [.m 54 7, .m 55 8, .i 56 (.indexAddr 1 (.t 54) (.t 55)), .l 57 56, .m 58 9, .L 59 3 1, .m 60 3, .m 61 8, .i 62 (.indexAddr 2 (.t 60) (.t 61)), .L 63 2 62, .i 64 (.call 27 [.t 59, .t 63]), .L 65 3 1, .m 66 3, .m 67 9, .i 68 (.indexAddr 2 (.t 66) (.t 67)), .L 69 2 68, .i 70 (.call 27 [.t 65, .t 69]), .i 71 (.eqB true (.t 64) (.t 70)), .i 72 (.indexAddr 1 (.t 57) (.t 58)), .s 1 72 71])) (.ops [.m 52 9, .i 53 (.bin .add (.t 52) (.n 1)), .m 9 53])))))))) (.ops [.m 42 8, .i 43 (.bin .add (.t 42) (.n 1)), .m 8 43])))))) (.seq (.seq (.ops [.i 10 (.mov (.c (.one (.st (.bool true)))))]) (.block 6 (.loop (.seq (.seq (.ops [.m 73 10]) (.cond (.t 73) .skip (.exit 6))) (.block 7 (.seq (.ops [.i 10 (.mov (.c (.one (.st (.bool false)))))]) (.seq (.ops [.i 11 (.mov (.n 0))]) (.block 8 (.loop (.seq (.seq (.ops [.m 74 11, .m 75 4, .i 76 (.bin .lss (.t 74) (.t 75))]) (.cond (.t 76) .skip (.exit 8))) (.seq (.block 9 (.seq (.ops [.i 12 (.mov (.n 0))]) (.block 10 (.loop (.seq (.seq (.ops [.m 79 12, .m 80 4, .i 81 (.bin .lss (.t 79) (.t 80))]) (.cond (.t 81) .skip (.exit 10))) (.seq (.block 11 (.seq (.ops [.m 84 7, .m 85 11, .i 86 (.indexAddr 1 (.t 84) (.t 85)), .l 87 86, .m 88 12, .i 89 (.indexAddr 1 (.t 87) (.t 88)), .l 90 89, .i 91 (.un .not (.t 90)), .m 92 91, .mk (some 93) (some (92, true)) (.load true 3 (.t 1)) .no, .mk (some 94) (some (92, true)) (.mov (.t 3)) .no, .mk (some 95) (some (92, true)) (.mov (.t 5)) .no, .mk (some 96) (some (92, true)) (.mov (.t 7)) .no, .mk (some 97) (some (92, true)) (.mov (.t 11)) .no, .mk (some 98) (some (92, true)) (.mov (.t 12)) .no, .mk (some 99) (some (92, true)) (.callR 28 [.t 93, .t 94, .t 95, .t 96, .t 97, .t 98]) .no, .i 100 (.pick (.t 92) (.t 99) (.c (.one (.st (.bool false)))))]) (.cond (.t 100) (.seq (.ops [.m 101 7, .m 102 11, .i 103 (.indexAddr 1 (.t 101) (.t 102)), .l 104 103, .m 105 12, .i 106 (.indexAddr 1 (.t 104) (.t 105)), .mk none none (.store 1 (.t 106) (.c (.one (.st (.bool true))))) .no]) (.seq (.ops [.m 107 7, .m 108 12, .i 109 (.indexAddr 1 (.t 107) (.t 108)), .l 110 109, .m 111 11, .i 112 (.indexAddr 1 (.t 110) (.t 111)), .mk none none (.store 1 (.t 112) (.c (.one (.st (.bool true))))) .no]) (.ops [.i 10 (.mov (.c (.one (.st (.bool true)))))]))) .skip))) (.ops [.m 82 12, .i 83 (.bin .add (.t 82) (.n 1)), .m 12 83]))))))) (.ops [.m 77 11, .i 78 (.bin .add (.t 77) (.n 1)), .m 11 78])))))))))))) (.seq (.ops [.i 13 (.mov (.n 0))]) (.seq (.seq (.ops [.i 14 (.mov (.n 0))]) (.block 12 (.loop (.seq (.seq (.ops [.m 113 14, .m 114 4, .i 115 (.bin .lss (.t 113) (.t 114))]) (.cond (.t 115) .skip (.exit 12))) (.seq (.block 13 (.seq (.ops [.i 15 (.mov (.c (.one (.st (.bool true)))))]) (.seq (.seq (.ops [.i 16 (.mov (.n 0))]) (.block 14 (.loop (.seq (.seq (.ops [.m 118 16, .m 119 14, .i 120 (.bin .lss (.t 118) (.t 119))]) (.cond (.t 120) .skip (.exit 14))) (.seq (.block 15 (.ops [.m 123 15, .m 124 123, .mk (some 125) (some (124, true)) (.mov (.t 7)) .no, .mk (some 126) (some (124, true)) (.mov (.t 14)) .no, .mk (some 127) (some (124, true)) (.indexAddr 1 (.t 125) (.t 126)) .no, .mk (some 128) (some (124, true)) (.load false 1 (.t 127)) .no, .mk (some 129) (some (124, true)) (.mov (.t 16)) .no, .mk (some 130) (some (124, true)) (.indexAddr 1 (.t 128) (.t 129)) .no, .mk (some 131) (some (124, true)) (.load false 1 (.t 130)) .no, .i 132 (.pick (.t 124) (.t 131) (.c (.one (.st (.bool false))))), .m 15 132])) (.ops [.m 121 16, .i 122 (.bin .add (.t 121) (.n 1)), .m 16 122])))))) (.seq (.ops [.m 133 15]) (.cond (.t 133) (.ops [.m 134 13, .i 135 (.bin .add (.t 134) (.n 1)), .m 13 135]) .skip))))) (.ops [.m 116 14, .i 117 (.bin .add (.t 116) (.n 1)), .m 14 117])))))) (.seq (.ops [.m 136 13, .m 2 136]) .ret)))))))))))
theorem Kc : OkF Try.prog 10 137 [40000099] GG [.t 2] := .of Try.func10 rfl rfl (by kernel_rfl) rfl

def bN : List Bool → Nat
 | [] => 0
 | b :: bs => b.toNat + 2 * bN bs
theorem Rl (b : Bool) (bs : List Bool) : (b.toNat + 2 * bN bs) / 2 = bN bs := by cases b <;> simp [Bool.toNat] <;> omega
theorem Ba : ∀ (l : List Bool) (i : Nat), (bN l).testBit i = l.getD i false
 | [], i => by simp [bN]
 | b :: bs, 0 => by
  rw [bN, Nat.testBit_zero]
  cases b <;> simp [Bool.toNat] <;> omega
 | b :: bs, i + 1 => by
  rw [bN, Nat.testBit_succ, Rl, Ba bs i]
  simp
theorem RB : ∀ l : List Bool, bN l < 2 ^ l.length
 | [] => by simp [bN]
 | b :: bs => by
  have h := RB bs
  rw [bN, List.length_cons, Nat.pow_succ]
  cases b <;> simp [Bool.toNat] <;> omega
theorem N5 (n : Nat) : bN (List.replicate n false) = 0 := by
 induction n with
 | zero => rfl
 | succ n ih => rw [List.replicate_succ, bN, ih]; rfl
theorem Px {l : List Bool} {i : Nat} (h : i < l.length) : bN l ||| 2 ^ i = bN (l.set i true) := by
 refine Nat.eq_of_testBit_eq fun j => ?_
 rw [Nat.testBit_or, Ba, Ba, Nat.testBit_two_pow]
 by_cases hj : i = j
 ·subst hj
  simp [List.getD_eq_getElem?_getD, h]
 ·simp [List.getD_eq_getElem?_getD, List.getElem?_set_ne hj, hj]
theorem SF (l : List Bool) (s : Nat) : bN l / 2 ^ s % 2 = (l.getD s false).toNat := by
 rw [← Ba, Nat.testBit_eq_decide_div_mod_eq]
 have : bN l / 2 ^ s % 2 < 2 := Nat.mod_lt _ (by omega)
 by_cases h : bN l / 2 ^ s % 2 = 1
 ·simp [h]
 ·simp [h]; omega
theorem Ra (x : Nat) : x &&& 1 = x % 2 := Nat.and_one_is_mod x
theorem Ms {l : List Bool} (h : l.length ≤ 64) : bN l ≤ 18446744073709551615 := by
 have h1 := RB l
 have h2 : 2 ^ l.length ≤ 2 ^ 64 := Nat.pow_le_pow_right (by omega) h
 have h3 : (2 : Nat) ^ 64 = 18446744073709551616 := by decide
 omega
def Au.lastB (a : Au) : List Bool := a.last.foldl (fun l s => l.set s.toNat true) (List.replicate a.states.toNat false)
theorem C3 : ∀ (ss : List Int) (l : List Bool), (ss.foldl (fun l s => l.set s.toNat true) l).length = l.length
 | [], _ => rfl
 | s :: ss, l => by rw [List.foldl_cons, C3 ss]; simp
theorem GL (i : Nat) : ∀ (ss : List Int) (l : List Bool), i < l.length → (ss.foldl (fun l s => l.set s.toNat true) l).getD i false = (l.getD i false || ss.any fun s => decide (s.toNat = i))
 | [], l, h => by simp
 | s :: ss, l, h => by
  rw [List.foldl_cons, GL i ss _ (by simpa using h), List.any_cons, ← Bool.or_assoc]
  congr 1
  by_cases he : s.toNat = i
  ·subst he
   simp [List.getD_eq_getElem?_getD, h]
  ·simp [List.getD_eq_getElem?_getD, List.getElem?_set_ne he, he]
theorem Au.lastB_length (a : Au) : a.lastB.length = a.states.toNat := by
 unfold Au.lastB
 rw [C3]
 simp
theorem Au.lastB_get (a : Au) (i : Nat) (h : i < a.states.toNat) : a.lastB.getD i false = a.last.any fun s => decide (s.toNat = i) := by
 unfold Au.lastB
 rw [GL _ _ _ (by simpa using h)]
 simp [List.getD_eq_getElem?_getD, h]

def BF (n m k : Nat) : List Nat := match m with
 | 0 => []
 | 1 => [k]
 | _ => [k / n, k % n]
def C1 (n m : Nat) : Nat := match m with
 | 0 => 1
 | 1 => n
 | _ => n * n
def CH (n m : Nat) : List (List Nat) := (List.range (C1 n m)).map (BF n m)
theorem G2 (n m k : Nat) (hm : m ≤ 2) : (BF n m k).length = m := by
 match m, hm with
 | 0, _ => rfl
 | 1, _ => rfl
 | 2, _ => rfl
theorem QV {n m k : Nat} (hm : m ≤ 2) (hk : k < C1 n m) : ∀ x ∈ BF n m k, x < n := by
 match m, hm with
 | 0, _ => simp [BF]
 | 1, _ => simpa [BF, C1] using hk
 | 2, _ =>
  have hk : k < n * n := hk
  have hn : 0 < n := by
   rcases Nat.eq_zero_or_pos n with h | h
   ·subst h; omega
   ·exact h
  intro x hx
  simp only [BF, List.mem_cons, List.not_mem_nil, or_false] at hx
  rcases hx with rfl | rfl
  ·exact Nat.div_lt_of_lt_mul hk
  ·exact Nat.mod_lt _ hn
theorem DT {n m : Nat} (hm : m ≤ 2) {l : List Nat} : l ∈ CH n m ↔ l.length = m ∧ ∀ x ∈ l, x < n := by
 unfold CH
 simp only [List.mem_map, List.mem_range]
 constructor
 ·rintro ⟨k, hk, rfl⟩
  exact ⟨G2 n m k hm, QV hm hk⟩
 ·rintro ⟨h1, h2⟩
  match m, hm, l, h1 with
  | 0, _, [], _ => exact ⟨0, by simp [C1], rfl⟩
  | 1, _, [a], _ => exact ⟨a, by simpa [C1] using h2 a (by simp), rfl⟩
  | 2, _, [a, b], _ =>
   have ha := h2 a (by simp)
   have hb := h2 b (by simp)
   refine ⟨a * n + b, ?_, ?_⟩
   ·show a * n + b < n * n
    calc a * n + b < a * n + n := by omega
     _ = (a + 1) * n := by rw [Nat.add_mul, Nat.one_mul]
     _ ≤ n * n := Nat.mul_le_mul_right _ ha
   ·show [(a * n + b) / n, (a * n + b) % n] = [a, b]
    have hn : 0 < n := by omega
    rw [Nat.mul_comm a n, Nat.mul_add_div hn, Nat.div_eq_of_lt hb, Nat.mul_add_mod, Nat.mod_eq_of_lt hb]
    simp
theorem PL {N k : Nat} (h : k ≤ N) : List.range k <+: List.range N := by
 obtain ⟨d, rfl⟩ := Nat.exists_eq_add_of_le h
 rw [List.range_add]
 exact List.prefix_append _ _
theorem P5 {n m k : Nat} (h : k ≤ C1 n m) : (List.range k).map (BF n m) <+: CH n m := by
 obtain ⟨r, hr⟩ := PL h
 exact ⟨r.map (BF n m), by rw [CH, ← hr, List.map_append]⟩
def EN (n m k : Nat) (i : Int) : List Nat → Prop := fun row => match m with
 | 0 => row = [] ∧ i = -1
 | 1 => (row = [k] ∧ i = 0) ∨ (row = [0] ∧ i = -1 ∧ k + 1 = n)
 | _ => (row = [k / n, k % n] ∧ i = 1) ∨ (row = [k / n, 0] ∧ i = 0 ∧ k % n + 1 = n) ∨ (row = [0, 0] ∧ i = -1 ∧ k % n + 1 = n ∧ k / n + 1 = n)
theorem Ke {n m k : Nat} (hm : m ≤ 2) : EN n m k ((m : Int) - 1) (BF n m k) := by
 match m, hm with
 | 0, _ => exact ⟨rfl, rfl⟩
 | 1, _ => exact .inl ⟨rfl, rfl⟩
 | 2, _ => exact .inl ⟨rfl, rfl⟩
theorem M1 {n m k : Nat} {i : Int} {row : List Nat} (hm : m ≤ 2) (h : EN n m k i row) : row.length = m := by
 match m, hm with
 | 0, _ => obtain ⟨rfl, _⟩ := h; rfl
 | 1, _ => rcases h with ⟨rfl, _⟩ | ⟨rfl, _⟩ <;> rfl
 | 2, _ => rcases h with ⟨rfl, _⟩ | ⟨rfl, _⟩ | ⟨rfl, _⟩ <;> rfl
theorem Oe {n m k : Nat} {i : Int} {row : List Nat} (hm : m ≤ 2) (h : EN n m k i row) : -1 ≤ i ∧ i < m := by
 match m, hm with
 | 0, _ => obtain ⟨_, rfl⟩ := h; omega
 | 1, _ => rcases h with ⟨_, rfl⟩ | ⟨_, rfl, _⟩ <;> omega
 | 2, _ => rcases h with ⟨_, rfl⟩ | ⟨_, rfl, _⟩ | ⟨_, rfl, _⟩ <;> omega
theorem Mz {n m k : Nat} {i : Int} {row : List Nat} (hm : m ≤ 2) (hk : k < C1 n m) (h : EN n m k i row) : ∀ x ∈ row, x < n := by
 match m, hm with
 | 0, _ => obtain ⟨rfl, _⟩ := h; simp
 | 1, _ =>
  have hk : k < n := hk
  rcases h with ⟨rfl, _⟩ | ⟨rfl, _⟩
  ·simpa using hk
  ·simp; omega
 | 2, _ =>
  have hk : k < n * n := hk
  have hn : 0 < n := by
   rcases Nat.eq_zero_or_pos n with h | h
   ·subst h; omega
   ·exact h
  have hml := Nat.mod_lt k hn
  have hq : k / n < n := Nat.div_lt_of_lt_mul hk
  rcases h with ⟨rfl, _⟩ | ⟨rfl, _⟩ | ⟨rfl, _⟩
  ·simp [hml, hq]
  ·simp [hn, hq]
  ·simp [hn]
theorem NU {n m k i : Nat} {row : List Nat} (hm : m ≤ 2) (hk : k < C1 n m) (h : EN n m k i row) {x : Nat} (hx : row[i]? = some x) (hlt : x + 1 < n) : k + 1 < C1 n m ∧ row.set i (x + 1) = BF n m (k + 1) := by
 match m, hm with
 | 0, _ => obtain ⟨rfl, h2⟩ := h; omega
 | 1, _ =>
  rcases h with ⟨rfl, h2⟩ | ⟨rfl, h2, _⟩
  ·have : i = 0 := by omega
   subst this
   simp at hx
   subst hx
   exact ⟨hlt, rfl⟩
  ·omega
 | 2, _ =>
  have hk : k < n * n := hk
  have hn : 0 < n := by omega
  have hdm := Nat.div_add_mod k n
  have hml := Nat.mod_lt k hn
  rcases h with ⟨rfl, h2⟩ | ⟨rfl, h2, h3⟩ | ⟨rfl, h2, h3⟩
  ·have : i = 1 := by omega
   subst this
   simp at hx
   subst hx
   have e : k + 1 = n * (k / n) + (k % n + 1) := by omega
   have hq : k / n < n := Nat.div_lt_of_lt_mul hk
   refine ⟨?_, ?_⟩
   ·show k + 1 < n * n
    calc k + 1 = n * (k / n) + (k % n + 1) := e
     _ < n * (k / n) + n := by omega
     _ = n * (k / n + 1) := by rw [Nat.mul_add, Nat.mul_one]
     _ ≤ n * n := Nat.mul_le_mul_left _ hq
   ·show [k / n, k % n + 1] = [(k + 1) / n, (k + 1) % n]
    rw [e, Nat.mul_add_div hn, Nat.div_eq_of_lt hlt, Nat.mul_add_mod, Nat.mod_eq_of_lt hlt]
    rfl
  ·have : i = 0 := by omega
   subst this
   simp at hx
   subst hx
   have e : k + 1 = n * (k / n + 1) := by rw [Nat.mul_add, Nat.mul_one]; omega
   refine ⟨?_, ?_⟩
   ·show k + 1 < n * n
    rw [e]
    exact Nat.mul_lt_mul_of_pos_left hlt hn
   ·show [k / n + 1, 0] = [(k + 1) / n, (k + 1) % n]
    rw [e, Nat.mul_div_cancel_left _ hn, Nat.mul_mod_right]
  ·omega
theorem LF {n m k i : Nat} {row : List Nat} (hm : m ≤ 2) (hk : k < C1 n m) (h : EN n m k i row) {x : Nat} (hx : row[i]? = some x) (hge : ¬ x + 1 < n) : EN n m k ((i : Int) - 1) ((row.set i (x + 1)).set i 0) := by
 match m, hm with
 | 0, _ => obtain ⟨rfl, h2⟩ := h; omega
 | 1, _ =>
  rcases h with ⟨rfl, h2⟩ | ⟨rfl, h2, _⟩
  ·have : i = 0 := by omega
   subst this
   simp at hx
   subst hx
   have hk : k < n := hk
   exact .inr ⟨rfl, rfl, by omega⟩
  ·omega
 | 2, _ =>
  have hk : k < n * n := hk
  have hn : 0 < n := by
   rcases Nat.eq_zero_or_pos n with h | h
   ·subst h; omega
   ·exact h
  have hml := Nat.mod_lt k hn
  have hq : k / n < n := Nat.div_lt_of_lt_mul hk
  rcases h with ⟨rfl, h2⟩ | ⟨rfl, h2, h3⟩ | ⟨rfl, h2, h3⟩
  ·have : i = 1 := by omega
   subst this
   simp at hx
   subst hx
   exact .inr (.inl ⟨rfl, rfl, by omega⟩)
  ·have : i = 0 := by omega
   subst this
   simp at hx
   subst hx
   exact .inr (.inr ⟨rfl, rfl, h3, by omega⟩)
  ·omega
theorem Mr {n m k : Nat} {row : List Nat} (hm : m ≤ 2) (hk : k < C1 n m) (h : EN n m k (-1) row) : k + 1 = C1 n m := by
 match m, hm with
 | 0, _ => have : k < 1 := hk; show k + 1 = 1; omega
 | 1, _ =>
  rcases h with ⟨_, h2⟩ | ⟨_, _, h2⟩
  ·omega
  ·exact h2
 | 2, _ =>
  rcases h with ⟨_, h2⟩ | ⟨_, h2, _⟩ | ⟨_, _, h2, h3⟩
  ·omega
  ·omega
  ·show k + 1 = n * n
   have hdm := Nat.div_add_mod k n
   have e : n * n = n * (k / n) + n := by
    calc n * n = n * (k / n + 1) := by rw [h3]
     _ = n * (k / n) + n := by rw [Nat.mul_add, Nat.mul_one]
   omega

theorem KB : ∀ l : List UInt8, Op.bytesLess l l = false
 | [] => by simp [Op.bytesLess]
 | x :: xs => by simp [Op.bytesLess, KB xs]
theorem Ld : ∀ (a b c : List UInt8), Op.bytesLess a b = true → Op.bytesLess b c = true → Op.bytesLess a c = true
 | _, [], _, h, _ => by simp [Op.bytesLess] at h
 | _, _ :: _, [], _, k => by simp [Op.bytesLess] at k
 | [], _ :: _, _ :: _, _, _ => by simp [Op.bytesLess]
 | x :: xs, y :: ys, z :: zs, h, k => by
  simp only [Op.bytesLess, Bool.or_eq_true, Bool.and_eq_true, decide_eq_true_eq, beq_iff_eq] at h k ⊢
  rcases h with h | ⟨rfl, h⟩
  ·rcases k with k | ⟨rfl, k⟩
   ·exact .inl (UInt8.lt_trans h k)
   ·exact .inl h
  ·rcases k with k | ⟨rfl, k⟩
   ·exact .inl k
   ·exact .inr ⟨rfl, Ld xs ys zs h k⟩
theorem MP : ∀ (a b : List UInt8), Op.bytesLess a b = true ∨ a = b ∨ Op.bytesLess b a = true
 | [], [] => .inr (.inl rfl)
 | [], _ :: _ => .inl (by simp [Op.bytesLess])
 | _ :: _, [] => .inr (.inr (by simp [Op.bytesLess]))
 | x :: xs, y :: ys => by
  simp only [Op.bytesLess, Bool.or_eq_true, Bool.and_eq_true, decide_eq_true_eq, beq_iff_eq, List.cons.injEq]
  rcases Nat.lt_trichotomy x.toNat y.toNat with h | h | h
  ·exact .inl (.inl h)
  ·have e : x = y := UInt8.toNat_inj.1 h
   subst e
   rcases MP xs ys with h | h | h
   ·exact .inl (.inr ⟨rfl, h⟩)
   ·exact .inr (.inl ⟨rfl, h⟩)
   ·exact .inr (.inr (.inr ⟨rfl, h⟩))
  ·exact .inr (.inr (.inl h))
theorem Pq {a b : ByteArray} (h : a.toList = b.toList) : a = b := by
 rw [ByteArray.toList_eq, ByteArray.toList_eq] at h
 cases a; cases b
 simp only at h
 congr 1
 exact Array.toList_inj.1 h
theorem Ng (a : ByteArray) : sLt a a = false := KB _
theorem PK {a b c : ByteArray} (h : sLt a b = true) (k : sLt b c = true) : sLt a c = true := Ld _ _ _ h k
theorem PX (a b : ByteArray) : sLt a b = true ∨ a = b ∨ sLt b a = true := by
 rcases MP a.toList b.toList with h | h | h
 ·exact .inl h
 ·exact .inr (.inl (Pq h))
 ·exact .inr (.inr h)
abbrev Bd := ByteArray × Tm
def ST (b : Bd) : List SV := [.str b.1, .str b.2.name, .list (b.2.args.map CT)]
instance : MC ST 3 := ⟨fun _ => rfl⟩
def lookup (l : List Bd) (n : ByteArray) : Option Tm := (l.find? fun b => decide (b.1 = n)).map (·.2)
mutual
def Tm.on (s : List Bd) : Tm → Tm
 | .mk n xs => match (if xs.isEmpty then lookup s n else none) with
  | some x => x
  | none => .mk n (Tm.onL s xs)
def Tm.onL (s : List Bd) : List Tm → List Tm
 | [] => []
 | t :: ts => t.on s :: Tm.onL s ts
end


abbrev Sym := ByteArray × Nat
def DS (a b : Sym) : Bool := if a.1 = b.1 then decide (a.2 < b.2) else sLt a.1 b.1
theorem EI (a : Sym) : DS a a = false := by simp [DS]
theorem De {a b c : Sym} (h : DS a b = true) (k : DS b c = true) : DS a c = true := by
 unfold DS at *
 by_cases e1 : a.1 = b.1
 ·rw [if_pos e1] at h
  by_cases e2 : b.1 = c.1
  ·rw [if_pos e2] at k
   rw [if_pos (e1.trans e2)]
   simp at h k ⊢
   omega
  ·rw [if_neg e2] at k
   rw [if_neg (fun e => e2 (e1.symm.trans e)), e1]
   exact k
 ·rw [if_neg e1] at h
  by_cases e2 : b.1 = c.1
  ·rw [if_pos e2] at k
   rw [if_neg (fun e => e1 (e.trans e2.symm)), ← e2]
   exact h
  ·rw [if_neg e2] at k
   have := PK h k
   rw [if_neg (fun e => by rw [e, Ng] at this; cases this)]
   exact this
theorem E2 (a b : Sym) : DS a b = true ∨ a = b ∨ DS b a = true := by
 obtain ⟨a, i⟩ := a
 obtain ⟨b, j⟩ := b
 unfold DS
 by_cases e : a = b
 ·subst e
  simp only [if_true, decide_eq_true_eq, Prod.mk.injEq, true_and]
  omega
 ·have e' : ¬ b = a := fun h => e h.symm
  show (if a = b then _ else sLt a b) = true ∨ _ ∨ (if b = a then _ else sLt b a) = true
  rw [if_neg e, if_neg e']
  rcases PX a b with h | h | h
  ·exact .inl h
  ·exact absurd h e
  ·exact .inr (.inr h)
def EE (l : List Sym) : Prop := l.Pairwise fun a b => DS a b = true
theorem Kh {l : List Sym} (h : EE l) : l.Nodup := by
 rw [List.nodup_iff_pairwise_ne]
 exact h.imp fun {a b} h e => by rw [e, EI] at h; cases h
theorem FW : ∀ {l m : List Sym}, EE l → EE m → (∀ x, x ∈ l ↔ x ∈ m) → l = m
 | [], [], _, _, _ => rfl
 | [], b :: m, _, _, h => absurd ((h b).2 (by simp)) (by simp)
 | a :: l, [], _, _, h => absurd ((h a).1 (by simp)) (by simp)
 | a :: l, c :: m, hl, hm, h => by
  obtain ⟨l1, l2⟩ := List.pairwise_cons.1 hl
  obtain ⟨m1, m2⟩ := List.pairwise_cons.1 hm
  have hirr : ∀ {a : Sym}, ¬ DS a a = true := fun {a} h => by rw [EI] at h; cases h
  have e : a = c := by
   rcases List.mem_cons.1 ((h a).1 (by simp)) with e | e
   ·exact e
   ·rcases List.mem_cons.1 ((h c).2 (by simp)) with e2 | e2
    ·exact e2.symm
    ·exact absurd (De (m1 a e) (l1 c e2)) hirr
  subst e
  refine congrArg (a :: ·) (FW l2 m2 fun x => ?_)
  constructor
  ·intro hx
   rcases List.mem_cons.1 ((h x).1 (List.mem_cons_of_mem _ hx)) with e | e
   ·subst e; exact absurd (l1 _ hx) hirr
   ·exact e
  ·intro hx
   rcases List.mem_cons.1 ((h x).2 (List.mem_cons_of_mem _ hx)) with e | e
   ·subst e; exact absurd (m1 _ hx) hirr
   ·exact e
def HG (x : Sym) : List Sym → List Sym
 | [] => [x]
 | y :: l => if x = y then y :: l else if DS x y = true then x :: y :: l else y :: HG x l
theorem Ma {x z : Sym} {l : List Sym} : z ∈ HG x l ↔ z = x ∨ z ∈ l := by
 induction l with
 | nil => simp [HG]
 | cons y l ih =>
  unfold HG
  split
  ·rename_i e; subst e; simp
  ·split
   ·simp
   ·simp only [List.mem_cons, ih]
    constructor
    ·rintro (h | h | h) <;> simp [h]
    ·rintro (h | h | h) <;> simp [h]
theorem Py {x : Sym} {l : List Sym} (h : EE l) : EE (HG x l) := by
 induction l with
 | nil => exact List.pairwise_singleton _ _
 | cons y l ih =>
  obtain ⟨h1, h2⟩ := List.pairwise_cons.1 h
  unfold HG
  split
  ·exact h
  ·rename_i e
   split
   ·rename_i hlt
    exact List.pairwise_cons.2 ⟨fun z hz => by
     rcases List.mem_cons.1 hz with rfl | hz
     ·exact hlt
     ·exact De hlt (h1 z hz), h⟩
   ·rename_i hlt
    refine List.pairwise_cons.2 ⟨fun z hz => ?_, ih h2⟩
    rcases Ma.1 hz with rfl | hz
    ·rcases E2 z y with q | q | q
     ·exact absurd q hlt
     ·exact absurd q e
     ·exact q
    ·exact h1 z hz
def BP (l : List Sym) : List Sym := l.foldr HG []
theorem D8 {l : List Sym} {x : Sym} : x ∈ BP l ↔ x ∈ l := by
 induction l with
 | nil => simp [BP]
 | cons y l ih =>
  show x ∈ HG y (BP l) ↔ _
  rw [Ma, ih, List.mem_cons]
theorem HD (l : List Sym) : EE (BP l) := by
 induction l with
 | nil => exact List.Pairwise.nil
 | cons y l ih => exact Py ih
theorem GH {l m : List Sym} (h : EE m) (hm : ∀ x, x ∈ m ↔ x ∈ l) : m = BP l :=
 FW h (HD l) fun x => (hm x).trans D8.symm
theorem H8 {l m : List Sym} (h : ∀ x, x ∈ l ↔ x ∈ m) : BP l = BP m :=
 GH (HD l) fun x => D8.trans (h x)
theorem Bx {l : List Sym} (h : l.Nodup) : (BP l).length = l.length := by
 have hp : (BP l).Perm l := by
  induction l with
  | nil => exact List.Perm.nil
  | cons y l ih =>
   obtain ⟨h1, h2⟩ := List.nodup_cons.1 h
   have key : ∀ {m : List Sym}, y ∉ m → (HG y m).Perm (y :: m) := fun {m} hy => by
    induction m with
    | nil => exact List.Perm.refl _
    | cons z m ih2 =>
     unfold HG
     rw [if_neg (fun e => hy (by simp [e]))]
     split
     ·exact List.Perm.refl _
     ·exact ((ih2 (fun hm => hy (by simp [hm]))).cons z).trans (List.Perm.swap _ _ _)
   exact (key (fun hm => h1 (D8.1 hm))).trans ((ih h2).cons y)
 exact hp.length_eq
def Mv.sym (m : Mv) : Sym := (m.name, m.frm.length)
def Ah (l : List Au) : List Sym := BP (l.flatMap fun a => a.moves.map Mv.sym)
theorem Cl {l : List Au} {s : Sym} : s ∈ Ah l ↔ ∃ a ∈ l, ∃ m ∈ a.moves, s = m.sym := by
 unfold Ah
 rw [D8, List.mem_flatMap]
 simp only [List.mem_map, eq_comm]

def met {α : Type} (l : List α) (seen : List Nat) : List α := seen.filterMap fun j => l[j]?
theorem QS {α : Type} {l : List α} {seen : List Nat} {j : Nat} {b : α} (h : l[j]? = some b) : met l (seen ++ [j]) = met l seen ++ [b] := by
 unfold met
 rw [List.filterMap_append, List.filterMap_cons_some h]
 rfl
theorem N1 {α : Type} {l : List α} : ∀ {seen : List Nat}, (∀ j ∈ seen, j < l.length) → (met l seen).length = seen.length
 | [], _ => rfl
 | j :: seen, h => by
  have hj := h j (by simp)
  unfold met
  rw [List.filterMap_cons_some (List.getElem?_eq_getElem hj), List.length_cons, List.length_cons]
  exact congrArg (· + 1) (N1 fun i hi => h i (by simp [hi]))
theorem Il {n : Nat} {seen : List Nat} (hn : seen.Nodup) (h : ∀ j ∈ seen, j < n) : seen.length ≤ n := by
 have h1 : seen.Perm ((List.range n).filter fun j => decide (j ∈ seen)) := (List.perm_ext_iff_of_nodup hn (List.nodup_range.filter _)).2 fun j => by
  rw [List.mem_filter, List.mem_range, decide_eq_true_eq]
  exact ⟨fun hj => ⟨h j hj, hj⟩, fun hj => hj.2⟩
 rw [h1.length_eq]
 exact Nat.le_trans (List.length_filter_le _ _) (Nat.le_of_eq List.length_range)
theorem Qt {α : Type} {l : List α} {seen : List Nat} (hn : seen.Nodup) (h : ∀ j ∈ seen, j < l.length) (hall : ∀ j, j < l.length → j ∈ seen) : (met l seen).Perm l := by
 have hp : seen.Perm (List.range l.length) := (List.perm_ext_iff_of_nodup hn List.nodup_range).2 fun j => ⟨fun hj => List.mem_range.2 (h j hj), fun hj => hall j (List.mem_range.1 hj)⟩
 have := hp.filterMap fun j => l[j]?
 rw [C4] at this
 exact this

abbrev J := List Bool × List Bool
def nxt (a b : Au) (n : ByteArray) (l : List J) : J := (a.ending n (l.map Prod.fst), b.ending n (l.map Prod.snd))
def Aq (out : List J) (l : List Nat) : List J := l.map fun i => out.getD i ([], [])
open Classical in
noncomputable def H4 (out : List J) (j : J) : List J := if j ∈ out then out else out ++ [j]
noncomputable def C5 (a b : Au) (n : ByteArray) (out : List J) (l : List Nat) : List J := H4 out (nxt a b n (Aq out l))
noncomputable def EF (a b : Au) (out : List J) (s : Sym) : List J := (CH out.length s.2).foldl (C5 a b s.1) out
noncomputable def HM (a b : Au) (syms : List Sym) (out : List J) : List J := syms.foldl (EF a b) out
noncomputable def itJ (a b : Au) (syms : List Sym) : Nat → List J
 | 0 => []
 | k + 1 => HM a b syms (itJ a b syms k)
theorem QI (out : List J) (j : J) : out <+: H4 out j := by
 unfold H4
 split
 ·exact List.prefix_refl _
 ·exact List.prefix_append _ _
theorem EC {α : Type} {f : List J → α → List J} (h : ∀ out x, out <+: f out x) : ∀ (l : List α) (out : List J), out <+: l.foldl f out
 | [], out => List.prefix_refl _
 | x :: l, out => (h out x).trans (EC h l (f out x))
theorem FM {a b : Au} {n : ByteArray} (out : List J) (l : List Nat) : out <+: C5 a b n out l := QI _ _
theorem Io {a b : Au} (out : List J) (s : Sym) : out <+: EF a b out s := EC (fun out l => FM out l) _ _
theorem Jd {a b : Au} {syms : List Sym} (out : List J) : out <+: HM a b syms out := EC (fun out s => Io out s) _ _
inductive Gen (a b : Au) (syms : List Sym) : J → Prop
 | mk {s : Sym} {l : List J} : s ∈ syms → l.length = s.2 → (∀ x ∈ l, Gen a b syms x) → Gen a b syms (nxt a b s.1 l)
theorem Gen.len {a b : Au} {syms : List Sym} {j : J} (h : Gen a b syms j) : j.1.length = a.states.toNat ∧ j.2.length = b.states.toNat := by
 cases h
 exact ⟨Au.ending_length _ _ _, Au.ending_length _ _ _⟩
structure OkJ (a b : Au) (syms : List Sym) (out : List J) : Prop where
 nod : out.Nodup
 gen : ∀ j ∈ out, Gen a b syms j
section
variable {a b : Au} {syms : List Sym}
theorem OkJ.nil : OkJ a b syms [] := ⟨List.nodup_nil, by simp⟩
theorem OkJ.add {out : List J} {j : J} (h : OkJ a b syms out) (hj : Gen a b syms j) : OkJ a b syms (H4 out j) := by
 unfold H4
 split
 ·exact h
 ·rename_i hm
  refine ⟨?_, fun x hx => ?_⟩
  ·rw [List.nodup_append]
   exact ⟨h.nod, by simp, fun x hx y hy e => hm (by rw [← List.mem_singleton.1 hy, ← e]; exact hx)⟩
  ·rcases List.mem_append.1 hx with hx | hx
   ·exact h.gen x hx
   ·rw [List.mem_singleton.1 hx]; exact hj
theorem Dy {out : List J} {l : List Nat} (hl : ∀ i ∈ l, i < out.length) : ∀ x ∈ Aq out l, x ∈ out := fun x hx => by
 unfold Aq at hx
 obtain ⟨i, hi, rfl⟩ := List.mem_map.1 hx
 have := hl i hi
 rw [List.getD_eq_getElem?_getD, List.getElem?_eq_getElem this]
 exact List.getElem_mem this
theorem CG (out : List J) (l : List Nat) : (Aq out l).length = l.length := by simp [Aq]
theorem OkJ.step {out : List J} {s : Sym} {l : List Nat} (h : OkJ a b syms out) (hs : s ∈ syms) (hl : l.length = s.2) (hi : ∀ i ∈ l, i < out.length) : OkJ a b syms (C5 a b s.1 out l) :=
 h.add (.mk hs (by rw [CG, hl]) fun x hx => h.gen x (Dy hi x hx))
theorem OkJ.steps {s : Sym} (hs : s ∈ syms) {n : Nat} : ∀ {ls : List (List Nat)} {out : List J}, OkJ a b syms out → n ≤ out.length → (∀ l ∈ ls, l.length = s.2 ∧ ∀ i ∈ l, i < n) → OkJ a b syms (ls.foldl (C5 a b s.1) out)
 | [], out, h, hn, hl => h
 | l :: ls, out, h, hn, hl => by
  obtain ⟨h1, h2⟩ := hl l (by simp)
  show OkJ a b syms (ls.foldl (C5 a b s.1) (C5 a b s.1 out l))
  exact OkJ.steps hs (h.step hs h1 fun i hi => Nat.lt_of_lt_of_le (h2 i hi) hn) (Nat.le_trans hn (FM out l).length_le) fun l' hl' => hl l' (by simp [hl'])
theorem OkJ.sym {out : List J} {s : Sym} (h : OkJ a b syms out) (hs : s ∈ syms) (h2 : s.2 ≤ 2) : OkJ a b syms (EF a b out s) :=
 OkJ.steps hs h (Nat.le_refl _) fun l hl => (DT h2).1 hl
theorem OkJ.symsF (h2 : ∀ s ∈ syms, s.2 ≤ 2) : ∀ {ss : List Sym} {out : List J}, (∀ s ∈ ss, s ∈ syms) → OkJ a b syms out → OkJ a b syms (ss.foldl (EF a b) out)
 | [], out, hs, h => h
 | s :: ss, out, hs, h => by
  show OkJ a b syms (ss.foldl (EF a b) (EF a b out s))
  exact OkJ.symsF h2 (fun x hx => hs x (by simp [hx])) (h.sym (hs s (by simp)) (h2 s (hs s (by simp))))
theorem OkJ.pass (h2 : ∀ s ∈ syms, s.2 ≤ 2) {out : List J} (h : OkJ a b syms out) : OkJ a b syms (HM a b syms out) := OkJ.symsF h2 (fun s hs => hs) h
theorem Kr (h2 : ∀ s ∈ syms, s.2 ≤ 2) : ∀ k, OkJ a b syms (itJ a b syms k)
 | 0 => .nil
 | k + 1 => (Kr h2 k).pass h2
theorem IA : ∀ {l m : List Bool}, l.length = m.length → bN l = bN m → l = m := fun {l m} hl h => by
 refine List.ext_getElem hl fun i h1 h2 => ?_
 have e1 := Ba l i
 have e2 := Ba m i
 rw [h, e2] at e1
 simpa [List.getD_eq_getElem?_getD, h1, h2] using e1.symm
theorem OkJ.len {out : List J} (h : OkJ a b syms out) (ha : a.states ≤ 3) (hb : b.states ≤ 3) : out.length ≤ 64 := by
 have hlt : ∀ {l : List Bool}, l.length ≤ 3 → bN l < 8 := fun {l} hl => Nat.lt_of_lt_of_le (RB l) (Nat.pow_le_pow_right (by omega) hl)
 have hc : (out.map fun j => bN j.1 * 8 + bN j.2).Nodup := by
  rw [List.nodup_iff_pairwise_ne, List.pairwise_map]
  have := h.nod
  rw [List.nodup_iff_pairwise_ne, List.pairwise_iff_getElem] at this
  rw [List.pairwise_iff_getElem]
  intro i j hi hj hij e
  refine this i j hi hj hij ?_
  obtain ⟨q1, q2⟩ := (h.gen _ (List.getElem_mem hi)).len
  obtain ⟨r1, r2⟩ := (h.gen _ (List.getElem_mem hj)).len
  have p1 := hlt (l := out[i].2) (by omega)
  have p2 := hlt (l := out[j].2) (by omega)
  exact Prod.ext (IA (by omega) (by omega)) (IA (by omega) (by omega))
 have := Il hc (n := 64) fun x hx => by
  obtain ⟨j, hj, rfl⟩ := List.mem_map.1 hx
  obtain ⟨q1, q2⟩ := (h.gen j hj).len
  have p1 := hlt (l := j.1) (by omega)
  have p2 := hlt (l := j.2) (by omega)
  omega
 simpa using this
theorem Fi (h2 : ∀ s ∈ syms, s.2 ≤ 2) (ha : a.states ≤ 3) (hb : b.states ≤ 3) : ∃ k, k ≤ 64 ∧ itJ a b syms (k + 1) = itJ a b syms k := by
 by_cases h : ∃ k, k ≤ 64 ∧ itJ a b syms (k + 1) = itJ a b syms k
 ·exact h
 ·exfalso
  have hgrow : ∀ k, k ≤ 65 → k ≤ (itJ a b syms k).length := fun k => by
   induction k with
   | zero => intro _; omega
   | succ k ih =>
    intro hk
    have h1 := ih (by omega)
    have hp := Jd (a := a) (b := b) (syms := syms) (itJ a b syms k)
    have hne : ¬ itJ a b syms (k + 1) = itJ a b syms k := fun e => h ⟨k, by omega, e⟩
    have hl := hp.length_le
    have : (itJ a b syms k).length ≠ (HM a b syms (itJ a b syms k)).length := fun e => hne (hp.eq_of_length e).symm
    show k + 1 ≤ (HM a b syms (itJ a b syms k)).length
    omega
  have h1 := hgrow 65 (Nat.le_refl _)
  have h2 := (Kr (a := a) (b := b) h2 65).len ha hb
  omega
theorem F4 {k : Nat} (h : itJ a b syms (k + 1) = itJ a b syms k) : ∀ d, itJ a b syms (k + d) = itJ a b syms k
 | 0 => rfl
 | d + 1 => by
  show HM a b syms (itJ a b syms (k + d)) = _
  rw [F4 h d]
  exact h
noncomputable def A7 (a b : Au) (syms : List Sym) : List J := itJ a b syms 64
theorem JV {k : Nat} (h2 : ∀ s ∈ syms, s.2 ≤ 2) (ha : a.states ≤ 3) (hb : b.states ≤ 3) (h : itJ a b syms (k + 1) = itJ a b syms k) : itJ a b syms k = A7 a b syms := by
 obtain ⟨k0, h0, hs⟩ := Fi (a := a) (b := b) h2 ha hb
 have e1 := F4 hs (64 - k0)
 rw [show k0 + (64 - k0) = 64 by omega] at e1
 unfold A7
 rw [e1]
 rcases Nat.le_total k k0 with hk | hk
 ·have := F4 h (k0 - k)
  rw [show k + (k0 - k) = k0 by omega] at this
  exact this.symm
 ·have := F4 hs (k - k0)
  rw [show k0 + (k - k0) = k by omega] at this
  exact this
theorem FL (h2 : ∀ s ∈ syms, s.2 ≤ 2) : OkJ a b syms (A7 a b syms) := Kr h2 64
theorem NS (h2 : ∀ s ∈ syms, s.2 ≤ 2) (ha : a.states ≤ 3) (hb : b.states ≤ 3) : HM a b syms (A7 a b syms) = A7 a b syms := by
 obtain ⟨k0, h0, hs⟩ := Fi (a := a) (b := b) h2 ha hb
 rw [← JV h2 ha hb hs]
 exact hs
theorem Ik {α : Type} {f : List J → α → List J} (hp : ∀ out x, out <+: f out x) : ∀ {l : List α} {out : List J}, l.foldl f out = out → ∀ x ∈ l, f out x = out
 | [], out, h, x, hx => by cases hx
 | y :: l, out, h, x, hx => by
  have h1 : f out y = out := by
   have p1 := hp out y
   have p2 := EC hp l (f out y)
   have hl : (l.foldl f (f out y)).length = out.length := congrArg List.length h
   exact (p1.eq_of_length (by have := p1.length_le; have := p2.length_le; omega)).symm
  rcases List.mem_cons.1 hx with rfl | hx
  ·exact h1
  ·refine Ik hp (l := l) ?_ x hx
   have h : l.foldl f (f out y) = out := h
   rw [h1] at h
   exact h
theorem Do (h2 : ∀ s ∈ syms, s.2 ≤ 2) (ha : a.states ≤ 3) (hb : b.states ≤ 3) {s : Sym} (hs : s ∈ syms) {l : List J} (hl : l.length = s.2) (hm : ∀ x ∈ l, x ∈ A7 a b syms) : nxt a b s.1 l ∈ A7 a b syms := by
 have h1 := Ik (fun out s => Io out s) (NS (a := a) (b := b) h2 ha hb) s hs
 have hidx : ∀ {l : List J}, (∀ x ∈ l, x ∈ A7 a b syms) → ∃ is : List Nat, is.length = l.length ∧ (∀ i ∈ is, i < (A7 a b syms).length) ∧ Aq (A7 a b syms) is = l := fun {l} => by
  induction l with
  | nil => intro _; exact ⟨[], rfl, by simp, rfl⟩
  | cons x l ih =>
   intro hm
   obtain ⟨is, q1, q2, q3⟩ := ih fun y hy => hm y (by simp [hy])
   obtain ⟨i, hi⟩ := List.getElem?_of_mem (hm x (by simp))
   refine ⟨i :: is, by simp [q1], fun j hj => ?_, ?_⟩
   ·rcases List.mem_cons.1 hj with rfl | hj
    ·exact (List.getElem?_eq_some_iff.1 hi).1
    ·exact q2 j hj
   ·show (A7 a b syms).getD i ([], []) :: Aq _ is = _
    rw [q3, List.getD_eq_getElem?_getD, hi]
    rfl
 obtain ⟨is, q1, q2, q3⟩ := hidx hm
 have h3 := Ik (fun out l => FM out l) h1 is ((DT (h2 s hs)).2 ⟨by omega, q2⟩)
 unfold C5 at h3
 rw [q3] at h3
 unfold H4 at h3
 split at h3
 ·assumption
 ·exact absurd (congrArg List.length h3) (by simp)
theorem L_ (h2 : ∀ s ∈ syms, s.2 ≤ 2) (ha : a.states ≤ 3) (hb : b.states ≤ 3) {j : J} (h : Gen a b syms j) : j ∈ A7 a b syms := by
 induction h with
 | mk hs hl _ ih => exact Do h2 ha hb hs hl ih
theorem Fw (h2 : ∀ s ∈ syms, s.2 ≤ 2) (ha : a.states ≤ 3) (hb : b.states ≤ 3) {j : J} : j ∈ A7 a b syms ↔ Gen a b syms j :=
 ⟨(FL h2).gen j, L_ h2 ha hb⟩
end

def Ak (a : Au) : Bool := decide (a.states ≤ 3) && a.moves.all fun m => decide (m.frm.length ≤ 2)
def CW (l : List Au) : Int := if l.all Ak = true then 0 else 3
def Au.fin (a : Au) (x : List Bool) : Bool := a.last.any fun s => x.getD s.toNat false
theorem Ie {a : Au} (ga : a.Good) (x : List Bool) : (bN x &&& bN a.lastB ≠ 0) ↔ a.fin x = true := by
 unfold Au.fin
 rw [List.any_eq_true]
 constructor
 ·intro h
  obtain ⟨i, hi⟩ := Nat.exists_testBit_of_ne_zero h
  rw [Nat.testBit_and, Ba, Ba, Bool.and_eq_true] at hi
  have hl : i < a.states.toNat := by
   rcases Nat.lt_or_ge i a.lastB.length with q | q
   ·rwa [← a.lastB_length]
   ·have h2 := hi.2
    rw [List.getD_eq_getElem?_getD, List.getElem?_eq_none q] at h2
    cases h2
  rw [a.lastB_get i hl, List.any_eq_true] at hi
  obtain ⟨h1, s, hs, he⟩ := hi
  exact ⟨s, hs, by rw [of_decide_eq_true he]; exact h1⟩
 ·rintro ⟨s, hs, h⟩ h0
  have hb := ga.last s hs
  have := congrArg (fun n => Nat.testBit n s.toNat) h0
  simp only [Nat.testBit_and, Ba, Nat.zero_testBit] at this
  rw [h, a.lastB_get _ (by omega), Bool.true_and, List.any_eq_false] at this
  exact this s hs (by simp)
inductive Qe (syms : List Sym) : Tm → Prop
 | mk {n : ByteArray} {ts : List Tm} : (n, ts.length) ∈ syms → (∀ t ∈ ts, Qe syms t) → Qe syms (.mk n ts)
section
variable {a b : Au} {syms : List Sym}
theorem SB {t : Tm} (h : Qe syms t) : Gen a b syms (a.ends t, b.ends t) := by
 induction h with
 | @mk n ts hs _ ih =>
  have := Gen.mk (a := a) (b := b) (s := (n, ts.length)) (l := ts.map fun t => (a.ends t, b.ends t)) hs (by simp) fun x hx => by
   obtain ⟨t, ht, rfl⟩ := List.mem_map.1 hx
   exact ih t ht
  have e : nxt a b n (ts.map fun t => (a.ends t, b.ends t)) = (a.ends (.mk n ts), b.ends (.mk n ts)) := by
   unfold nxt
   rw [Au.ends_eq, Au.ends_eq, Au.endsL_eq, Au.endsL_eq, List.map_map, List.map_map]
   rfl
  rw [e] at this
  exact this
end
noncomputable def Ge (a b : Au) : Bool := (A7 a b (Ah [a, b])).all fun j => !(a.fin j.1 && !b.fin j.2)
theorem IG {a b : Au} (ha : Ak a = true) (hb : Ak b = true) : ∀ s ∈ Ah [a, b], s.2 ≤ 2 := fun s hs => by
 obtain ⟨c, hc, m, hm, rfl⟩ := Cl.1 hs
 unfold Ak at ha hb
 simp only [Bool.and_eq_true, List.all_eq_true, decide_eq_true_eq] at ha hb
 simp only [List.mem_cons, List.not_mem_nil, or_false] at hc
 rcases hc with rfl | rfl
 ·exact ha.2 m hm
 ·exact hb.2 m hm
theorem Aa {a : Au} (ha : Ak a = true) : a.states ≤ 3 := by
 unfold Ak at ha
 simp only [Bool.and_eq_true, decide_eq_true_eq] at ha
 exact ha.1

def CA : List ByteArray → ByteArray → Nat
 | [], _ => 0
 | x :: l, n => if x = n then 0 else CA l n + 1
def GP (l : List ByteArray) (n : ByteArray) : List ByteArray := if CA l n < l.length then l else l ++ [n]
theorem DY : ∀ {l : List ByteArray} {n : ByteArray}, CA l n < l.length ↔ n ∈ l
 | [], n => by simp [CA]
 | x :: l, n => by
  have ih := DY (l := l) (n := n)
  unfold CA
  by_cases e : x = n
  ·subst e; simp
  ·have e' : ¬ n = x := fun h => e h.symm
   rw [if_neg e]
   simp only [List.length_cons, List.mem_cons, e', false_or, ← ih]
   omega
theorem IF : ∀ {l : List ByteArray} {n : ByteArray}, CA l n < l.length → l[CA l n]? = some n
 | [], n, h => by simp at h
 | x :: l, n, h => by
  unfold CA at h ⊢
  by_cases e : x = n
  ·rw [if_pos e, e]; rfl
  ·rw [if_neg e] at h ⊢
   rw [List.getElem?_cons_succ]
   exact IF (by simpa using h)
theorem Li {l : List ByteArray} {m n : ByteArray} (hm : m ∈ l) (hn : n ∈ l) (h : CA l m = CA l n) : m = n := by
 have h1 := IF (DY.2 hm)
 have h2 := IF (DY.2 hn)
 rw [h, h2] at h1
 exact (Option.some.inj h1).symm
theorem Ll {l : List ByteArray} {n : ByteArray} (h : n ∈ l) (m : List ByteArray) : CA (l ++ m) n = CA l n := by
 induction l with
 | nil => cases h
 | cons x l ih =>
  rw [List.cons_append]
  unfold CA
  by_cases e : x = n
  ·rw [if_pos e, if_pos e]
  ·rw [if_neg e, if_neg e]
   rcases List.mem_cons.1 h with h | h
   ·exact absurd h.symm e
   ·rw [ih h]
theorem RC (l : List ByteArray) (n : ByteArray) : l <+: GP l n := by
 unfold GP
 split
 ·exact List.prefix_refl _
 ·exact List.prefix_append _ _
theorem Lg {l : List ByteArray} {n x : ByteArray} : x ∈ GP l n ↔ x ∈ l ∨ x = n := by
 unfold GP
 split
 ·rename_i h
  have := DY.1 h
  constructor
  ·exact .inl
  ·rintro (h | rfl)
   ·exact h
   ·exact this
 ·simp
theorem Nk {l : List ByteArray} {n : ByteArray} (h : l.Nodup) : (GP l n).Nodup := by
 unfold GP
 split
 ·exact h
 ·rename_i hm
  rw [List.nodup_append]
  exact ⟨h, by simp, fun x hx y hy e => hm (DY.2 (by rw [← List.mem_singleton.1 hy, ← e]; exact hx))⟩
theorem DN {α : Type} : ∀ {l m : List α}, l.Nodup → (∀ x ∈ l, x ∈ m) → l.length ≤ m.length
 | [], m, _, _ => Nat.zero_le _
 | x :: l, m, hn, hs => by
  obtain ⟨h1, h2⟩ := List.nodup_cons.1 hn
  obtain ⟨p, q, hpq⟩ := List.append_of_mem (hs x (by simp))
  subst hpq
  have := DN (m := p ++ q) h2 fun y hy => by
   have h3 := hs y (by simp [hy])
   have hne : ¬ y = x := fun e => h1 (by rw [← e]; exact hy)
   simp only [List.mem_append, List.mem_cons, hne, false_or] at h3 ⊢
   exact h3
  simp only [List.length_cons, List.length_append] at this ⊢
  omega
section
variable (a : Au) (syms : List Sym) (R : List J)
def stp (n : ByteArray) (l : List Nat) : Nat := (R.map Prod.fst).idxOf (a.ending n ((Aq R l).map Prod.fst))
def Fp (part : List Nat) (n : ByteArray) (i : Nat) (key : List Nat) (l : List Nat) : List Nat := key ++ (List.range l.length).map fun k => part.getD (stp a R n (l.set k i)) 0
def JG (part : List Nat) (i : Nat) (key : List Nat) (s : Sym) : List Nat := (CH R.length s.2).foldl (Fp a R part s.1 i) key
def sig (part : List Nat) (i : Nat) : List Nat := syms.foldl (JG a R part i) [part.getD i 0]
def BK (l : List Nat) : ByteArray := ⟨(l.map fun p => UInt8.ofNat (p + 1)).toArray⟩
def BI (part : List Nat) (k : Nat) : List ByteArray := (List.range k).foldl (fun L i => GP L (BK (sig a syms R part i))) []
def fresh (part : List Nat) : List Nat := (List.range R.length).map fun i => CA (BI a syms R part R.length) (BK (sig a syms R part i))
def Dg : List Nat := R.map fun j => if a.fin j.1 = true then 1 else 0
def At : Nat → List Nat
 | 0 => Dg a R
 | t + 1 => fresh a syms R (At t)
def nK (t : Nat) : Nat := (BI a syms R (At a syms R t) R.length).length
def CB : Nat → Nat
 | 0 => 0
 | t + 1 => nK a syms R t
end
section
variable {a : Au} {syms : List Sym} {R : List J}
theorem DO {part : List Nat} (k : Nat) : BI a syms R part (k + 1) = GP (BI a syms R part k) (BK (sig a syms R part k)) := by
 unfold BI
 rw [List.range_succ, List.foldl_append]
 rfl
theorem BG {part : List Nat} : ∀ {k : Nat} {x : ByteArray}, x ∈ BI a syms R part k ↔ ∃ i, i < k ∧ x = BK (sig a syms R part i)
 | 0, x => by simp [BI]
 | k + 1, x => by
  rw [DO, Lg, BG]
  constructor
  ·rintro (⟨i, h1, h2⟩ | h)
   ·exact ⟨i, by omega, h2⟩
   ·exact ⟨k, by omega, h⟩
  ·rintro ⟨i, h1, h2⟩
   rcases Nat.lt_or_ge i k with h | h
   ·exact .inl ⟨i, h, h2⟩
   ·have : i = k := by omega
    subst this
    exact .inr h2
theorem Cu {part : List Nat} : ∀ {k : Nat}, (BI a syms R part k).Nodup
 | 0 => List.nodup_nil
 | k + 1 => by rw [DO]; exact Nk Cu
theorem DI {part : List Nat} : ∀ {k : Nat}, (BI a syms R part k).length ≤ k
 | 0 => Nat.le_refl _
 | k + 1 => by
  rw [DO]
  have := DI (part := part) (k := k)
  unfold GP
  split
  ·omega
  ·simp; omega
theorem JW {part : List Nat} {k : Nat} : ∀ d, BI a syms R part k <+: BI a syms R part (k + d)
 | 0 => List.prefix_refl _
 | d + 1 => (JW d).trans (by rw [show k + (d + 1) = (k + d) + 1 from rfl, DO]; exact RC _ _)
theorem RE {part : List Nat} {k i : Nat} (hi : i < k) (hk : k ≤ R.length) : CA (BI a syms R part R.length) (BK (sig a syms R part i)) = CA (BI a syms R part k) (BK (sig a syms R part i)) := by
 obtain ⟨d, hd⟩ := Nat.exists_eq_add_of_le hk
 obtain ⟨r, hr⟩ := JW (a := a) (syms := syms) (R := R) (part := part) (k := k) d
 rw [hd, ← hr]
 exact Ll (BG.2 ⟨i, hi, rfl⟩) r
theorem HA {part : List Nat} : (fresh a syms R part).length = R.length := by simp [fresh]
theorem CX {part : List Nat} {i : Nat} (hi : i < R.length) : (fresh a syms R part).getD i 0 = CA (BI a syms R part R.length) (BK (sig a syms R part i)) := by
 unfold fresh
 rw [List.getD_eq_getElem?_getD, List.getElem?_map, List.getElem?_range hi]
 rfl
theorem Qo {part : List Nat} {i : Nat} (hi : i < R.length) : (fresh a syms R part).getD i 0 < R.length := by
 rw [CX hi]
 exact Nat.lt_of_lt_of_le (DY.2 (BG.2 ⟨i, hi, rfl⟩)) DI
theorem JY : (Dg a R).length = R.length := by simp [Dg]
theorem O2 : ∀ t, (At a syms R t).length = R.length
 | 0 => JY
 | t + 1 => HA
theorem Ew (i : Nat) : ∀ t, (At a syms R t).getD i 0 ≤ R.length
 | 0 => by
  unfold At Dg
  rw [List.getD_eq_getElem?_getD, List.getElem?_map]
  rcases Nat.lt_or_ge i R.length with h | h
  ·rw [List.getElem?_eq_getElem h, Option.map_some, Option.getD_some]
   split <;> omega
  ·rw [List.getElem?_eq_none h]
   simp
 | t + 1 => by
  rcases Nat.lt_or_ge i R.length with h | h
  ·exact Nat.le_of_lt (Qo h)
  ·unfold At
   rw [List.getD_eq_getElem?_getD, List.getElem?_eq_none (by rw [HA]; exact h)]
   exact Nat.zero_le _
theorem GJ : ∀ {l m : List Nat}, (∀ x ∈ l, x < 100) → (∀ x ∈ m, x < 100) → BK l = BK m → l = m := fun {l m} hl hm h => by
 have h1 : l.map (fun p => UInt8.ofNat (p + 1)) = m.map (fun p => UInt8.ofNat (p + 1)) := by
  have h2 := congrArg (fun b : ByteArray => b.data.toList) h
  simpa [BK] using h2
 have hlen : l.length = m.length := by simpa using congrArg List.length h1
 refine List.ext_getElem hlen fun i p q => ?_
 have h3 := congrArg (fun k : List UInt8 => k[i]?) h1
 simp only [List.getElem?_map, List.getElem?_eq_getElem p, List.getElem?_eq_getElem q, Option.map_some, Option.some.injEq] at h3
 have a1 := hl _ (List.getElem_mem p)
 have a2 := hm _ (List.getElem_mem q)
 have h4 := congrArg UInt8.toNat h3
 rw [UInt8.toNat_ofNat', UInt8.toNat_ofNat'] at h4
 omega
theorem Qu {part : List Nat} {B : Nat} (hp : ∀ i, part.getD i 0 ≤ B) {n : ByteArray} {i : Nat} {key : List Nat} (h : ∀ x ∈ key, x ≤ B) (l : List Nat) : ∀ x ∈ Fp a R part n i key l, x ≤ B := fun x hx => by
 unfold Fp at hx
 rcases List.mem_append.1 hx with hx | hx
 ·exact h x hx
 ·obtain ⟨k, _, rfl⟩ := List.mem_map.1 hx
  exact hp _
theorem Gy {α : Type} {f : List Nat → α → List Nat} {B : Nat} (hf : ∀ key x, (∀ y ∈ key, y ≤ B) → ∀ y ∈ f key x, y ≤ B) : ∀ (l : List α) (key : List Nat), (∀ y ∈ key, y ≤ B) → ∀ y ∈ l.foldl f key, y ≤ B
 | [], key, h => h
 | x :: l, key, h => Gy hf l (f key x) (hf key x h)
theorem Ho {part : List Nat} {B : Nat} (hp : ∀ i, part.getD i 0 ≤ B) (i : Nat) : ∀ x ∈ sig a syms R part i, x ≤ B :=
 Gy (fun key s h => Gy (fun key l h => Qu hp h l) _ _ h) _ _ fun y hy => by
  rw [List.mem_singleton.1 hy]
  exact hp i
theorem Fj {α : Type} {f : List Nat → α → List Nat} (hf : ∀ key x, key <+: f key x) : ∀ (l : List α) (key : List Nat), key <+: l.foldl f key
 | [], key => List.prefix_refl _
 | x :: l, key => (hf key x).trans (Fj hf l (f key x))
theorem LJ (part : List Nat) (i : Nat) : [part.getD i 0] <+: sig a syms R part i :=
 Fj (fun key s => Fj (fun key l => List.prefix_append _ _) _ _) _ _
theorem IE {part : List Nat} {i j : Nat} (h : sig a syms R part i = sig a syms R part j) : part.getD i 0 = part.getD j 0 := by
 obtain ⟨r, hr⟩ := LJ (a := a) (syms := syms) (R := R) part i
 obtain ⟨s, hs⟩ := LJ (a := a) (syms := syms) (R := R) part j
 rw [← hr, ← hs] at h
 exact (List.cons.inj h).1
theorem HV (h64 : R.length ≤ 64) {t i j : Nat} (hi : i < R.length) (hj : j < R.length) (h : BK (sig a syms R (At a syms R (t + 1)) i) = BK (sig a syms R (At a syms R (t + 1)) j)) : BK (sig a syms R (At a syms R t) i) = BK (sig a syms R (At a syms R t) j) := by
 have hb : ∀ i, ∀ x ∈ sig a syms R (At a syms R (t + 1)) i, x < 100 := fun i x hx => by
  have := Ho (fun k => Ew k (t + 1)) i x hx
  omega
 have h1 := IE (GJ (hb i) (hb j) h)
 rw [show At a syms R (t + 1) = fresh a syms R (At a syms R t) from rfl, CX hi, CX hj] at h1
 exact Li (BG.2 ⟨i, hi, rfl⟩) (BG.2 ⟨j, hj, rfl⟩) h1
theorem L5 {k : Nat} {f g : Nat → ByteArray} {F G : List ByteArray} (hG : G.Nodup) (hF : ∀ i, i < k → f i ∈ F) (hg : ∀ x ∈ G, ∃ i, i < k ∧ x = g i) (h : ∀ i j, i < k → j < k → f i = f j → g i = g j) : G.length ≤ F.length := by
 obtain ⟨c, hc⟩ := Classical.axiomOfChoice (r := fun (x : ByteArray) i => x ∈ G → i < k ∧ x = g i) fun x => by
  by_cases hx : x ∈ G
  ·obtain ⟨i, h1, h2⟩ := hg x hx
   exact ⟨i, fun _ => ⟨h1, h2⟩⟩
  ·exact ⟨0, fun h => absurd h hx⟩
 have := DN (l := G.map fun x => f (c x)) (m := F) ?_ ?_
 ·simpa using this
 ·rw [List.nodup_iff_pairwise_ne, List.pairwise_map]
  rw [List.nodup_iff_pairwise_ne, List.pairwise_iff_getElem] at hG
  rw [List.pairwise_iff_getElem]
  intro i j hi hj hij e
  obtain ⟨p1, p2⟩ := hc _ (List.getElem_mem hi)
  obtain ⟨q1, q2⟩ := hc _ (List.getElem_mem hj)
  refine hG i j hi hj hij ?_
  rw [p2, q2]
  exact h _ _ p1 q1 e
 ·intro x hx
  obtain ⟨y, hy, rfl⟩ := List.mem_map.1 hx
  exact hF _ (hc y hy).1
theorem RW (h64 : R.length ≤ 64) (t : Nat) : nK a syms R t ≤ nK a syms R (t + 1) :=
 L5 (k := R.length) (f := fun i => BK (sig a syms R (At a syms R (t + 1)) i)) (g := fun i => BK (sig a syms R (At a syms R t) i)) Cu (fun i hi => BG.2 ⟨i, hi, rfl⟩) (fun x hx => BG.1 hx) fun i j hi hj h => HV h64 hi hj h
theorem Q8 (h64 : R.length ≤ 64) : ∃ T, T ≤ 65 ∧ nK a syms R T = CB a syms R T ∧ ∀ t, t < T → ¬ nK a syms R t = CB a syms R t := by
 have key : ∀ n, (∃ T, T ≤ n ∧ nK a syms R T = CB a syms R T ∧ ∀ t, t < T → ¬ nK a syms R t = CB a syms R t) ∨ (n + 1 ≤ nK a syms R n ∧ ∀ t, t ≤ n → ¬ nK a syms R t = CB a syms R t) := fun n => by
  induction n with
  | zero =>
   by_cases h : nK a syms R 0 = CB a syms R 0
   ·exact .inl ⟨0, Nat.le_refl _, h, fun t ht => by omega⟩
   ·refine .inr ⟨?_, fun t ht => by rw [show t = 0 by omega]; exact h⟩
    have h0 : CB a syms R 0 = 0 := rfl
    omega
  | succ n ih =>
   rcases ih with ⟨T, h1, h2, h3⟩ | ⟨h1, h2⟩
   ·exact .inl ⟨T, by omega, h2, h3⟩
   ·by_cases h : nK a syms R (n + 1) = CB a syms R (n + 1)
    ·exact .inl ⟨n + 1, Nat.le_refl _, h, fun t ht => h2 t (by omega)⟩
    ·refine .inr ⟨?_, fun t ht => ?_⟩
     ·have := RW (a := a) (syms := syms) h64 n
      have h4 : CB a syms R (n + 1) = nK a syms R n := rfl
      omega
     ·rcases Nat.lt_or_ge t (n + 1) with h5 | h5
      ·exact h2 t (by omega)
      ·rw [show t = n + 1 by omega]; exact h
 rcases key 65 with h | ⟨h, _⟩
 ·exact h
 ·have := DI (a := a) (syms := syms) (R := R) (part := At a syms R 65) (k := R.length)
  unfold nK at h
  omega
end

def A6 (l : List Bool) : ByteArray := ⟨(l.map fun b => if b then (49 : UInt8) else 48).toArray⟩
theorem E7 {l m : List Bool} (h : A6 l = A6 m) : l = m := by
 have h1 : l.map (fun b => if b then (49 : UInt8) else 48) = m.map (fun b => if b then (49 : UInt8) else 48) := by
  have h2 := congrArg (fun b : ByteArray => b.data.toList) h
  simpa [A6] using h2
 have hlen : l.length = m.length := by simpa using congrArg List.length h1
 refine List.ext_getElem hlen fun i p q => ?_
 have h3 := congrArg (fun k : List UInt8 => k[i]?) h1
 simp only [List.getElem?_map, List.getElem?_eq_getElem p, List.getElem?_eq_getElem q, Option.map_some, Option.some.injEq] at h3
 cases hx : l[i] <;> cases hy : m[i] <;> rw [hx, hy] at h3 <;> simp at h3 ⊢
theorem Kg (l m : List Bool) : A6 l ++ A6 m = A6 (l ++ m) := by
 apply ByteArray.ext
 simp [A6]
theorem Ft (l : List Bool) : (A6 l).size = l.length := by
 show (l.map _).toArray.size = _
 simp
def bar : ByteArray := ⟨#[124]⟩
def EW (a b : Au) (t : Tm) : J := (a.ends t, b.ends t)
def Dq (a b : Au) (t : Tm) : ByteArray := A6 (a.ends t) ++ bar ++ A6 (b.ends t)
theorem Pe {a b : Au} {t u : Tm} : Dq a b t = Dq a b u ↔ EW a b t = EW a b u := by
 constructor
 ·intro h
  have h2 := congrArg (fun x : ByteArray => x.data.toList) h
  simp only [Dq, ByteArray.data_append, Array.toList_append] at h2
  have l1 : (A6 (a.ends t)).data.toList.length = (A6 (a.ends u)).data.toList.length := by simp [A6, Au.ends_length]
  rw [List.append_assoc, List.append_assoc] at h2
  obtain ⟨h3, h4⟩ := List.append_inj h2 l1
  have h5 := List.append_cancel_left h4
  have e1 : A6 (a.ends t) = A6 (a.ends u) := ByteArray.ext (Array.ext' h3)
  have e2 : A6 (b.ends t) = A6 (b.ends u) := ByteArray.ext (Array.ext' h5)
  exact Prod.ext (E7 e1) (E7 e2)
 ·intro h
  unfold EW at h
  simp only [Prod.mk.injEq] at h
  unfold Dq
  rw [h.1, h.2]
inductive Ci : Tm → Prop
 | mk {n : ByteArray} {ts : List Tm} : ts.length ≤ 1000000 → (∀ t ∈ ts, Ci t) → Ci (.mk n ts)
def tmZ : Tm := .mk .empty []
def Cr (out : List Tm) (n k c : Nat) : List Tm := (List.range k).map fun j => if j = 0 then out.getD (c % n) tmZ else out.getD (c / n) tmZ
def tG (m : Mv) (out : List Tm) (n c : Nat) : Tm := .mk m.name (Cr out n m.frm.length c)
open Classical in
noncomputable def L8 (a b : Au) (out : List Tm) (t : Tm) : List Tm := if EW a b t ∈ out.map (EW a b) then out else out ++ [t]
noncomputable def CE (a b : Au) (m : Mv) (n : Nat) (out : List Tm) (c : Nat) : List Tm := L8 a b out (tG m out n c)
def IU (m : Mv) (out : List Tm) : Bool := decide (2 < m.frm.length) || (decide (0 < m.frm.length) && decide (out.length = 0))
noncomputable def Bf (a b : Au) (out : List Tm) (m : Mv) : List Tm := if IU m out = true then out else (List.range (out.length ^ m.frm.length)).foldl (CE a b m out.length) out
noncomputable def IC (a b : Au) (ms : List Mv) (out : List Tm) : List Tm := ms.foldl (Bf a b) out
noncomputable def itG (a b : Au) (ms : List Mv) : Nat → List Tm
 | 0 => []
 | k + 1 => IC a b ms (itG a b ms k)
theorem Pi {a b : Au} (out : List Tm) (t : Tm) : out <+: L8 a b out t := by
 unfold L8
 split
 ·exact List.prefix_refl _
 ·exact List.prefix_append _ _
theorem DD {α : Type} {f : List Tm → α → List Tm} (h : ∀ out x, out <+: f out x) : ∀ (l : List α) (out : List Tm), out <+: l.foldl f out
 | [], out => List.prefix_refl _
 | x :: l, out => (h out x).trans (DD h l (f out x))
theorem FD {a b : Au} {m : Mv} {n : Nat} (out : List Tm) (c : Nat) : out <+: CE a b m n out c := Pi _ _
theorem G6 {a b : Au} (out : List Tm) (m : Mv) : out <+: Bf a b out m := by
 unfold Bf
 split
 ·exact List.prefix_refl _
 ·exact DD (fun out c => FD out c) _ _
theorem J3 {a b : Au} {ms : List Mv} (out : List Tm) : out <+: IC a b ms out := DD (fun out m => G6 out m) _ _
structure OkG (a b : Au) (syms : List Sym) (out : List Tm) : Prop where
 nod : (out.map (EW a b)).Nodup
 ok : ∀ t ∈ out, Qe syms t ∧ Ci t
section
variable {a b : Au} {syms : List Sym}
theorem OkG.toJ {out : List Tm} (h : OkG a b syms out) : OkJ a b syms (out.map (EW a b)) := ⟨h.nod, fun j hj => by
 obtain ⟨t, ht, rfl⟩ := List.mem_map.1 hj
 exact SB (h.ok t ht).1⟩
theorem OkG.len {out : List Tm} (h : OkG a b syms out) (ha : a.states ≤ 3) (hb : b.states ≤ 3) : out.length ≤ 64 := by
 have := h.toJ.len ha hb
 simpa using this
theorem OkG.add {out : List Tm} {t : Tm} (h : OkG a b syms out) (ht : Qe syms t) (hn : Ci t) : OkG a b syms (L8 a b out t) := by
 unfold L8
 split
 ·exact h
 ·rename_i hm
  refine ⟨?_, fun x hx => ?_⟩
  ·rw [List.map_append, List.nodup_append]
   exact ⟨h.nod, by simp, fun x hx y hy e => hm (by rw [List.map_singleton, List.mem_singleton] at hy; rw [← hy, ← e]; exact hx)⟩
  ·rcases List.mem_append.1 hx with hx | hx
   ·exact h.ok x hx
   ·rw [List.mem_singleton.1 hx]; exact ⟨ht, hn⟩
theorem Dw (out : List Tm) (n k c : Nat) : (Cr out n k c).length = k := by simp [Cr]
theorem JU {out : List Tm} {n k c : Nat} (hn : n ≤ out.length) (hk : k ≤ 2) (hc : c < n ^ k) : ∀ x ∈ Cr out n k c, x ∈ out := fun x hx => by
 unfold Cr at hx
 obtain ⟨j, hj, rfl⟩ := List.mem_map.1 hx
 have hj := List.mem_range.1 hj
 have key : ∀ i, i < out.length → out.getD i tmZ ∈ out := fun i hi => by
  rw [List.getD_eq_getElem?_getD, List.getElem?_eq_getElem hi]
  exact List.getElem_mem hi
 have hn0 : 0 < n := by
  rcases Nat.eq_zero_or_pos n with h | h
  ·subst h
   rw [Nat.zero_pow (by omega)] at hc
   omega
  ·exact h
 split
 ·exact key _ (Nat.lt_of_lt_of_le (Nat.mod_lt _ hn0) hn)
 ·refine key _ (Nat.lt_of_lt_of_le ?_ hn)
  have hk2 : k = 2 := by omega
  subst hk2
  rw [Nat.pow_two] at hc
  exact Nat.div_lt_of_lt_mul hc
theorem R7 {o1 o2 : List Tm} {m : Mv} {n c : Nat} (h : o1 <+: o2) (hn : n ≤ o1.length) (hk : m.frm.length ≤ 2) (hc : c < n ^ m.frm.length) : tG m o2 n c = tG m o1 n c := by
 obtain ⟨r, rfl⟩ := h
 unfold tG Cr
 congr 1
 refine List.map_congr_left fun j hj => ?_
 have hj := List.mem_range.1 hj
 have hn0 : 0 < n := by
  rcases Nat.eq_zero_or_pos n with h | h
  ·subst h
   rw [Nat.zero_pow (by omega)] at hc
   omega
  ·exact h
 have key : ∀ i, i < o1.length → (o1 ++ r).getD i tmZ = o1.getD i tmZ := fun i hi => by
  rw [List.getD_eq_getElem?_getD, List.getD_eq_getElem?_getD, List.getElem?_append_left hi]
 split
 ·exact key _ (Nat.lt_of_lt_of_le (Nat.mod_lt _ hn0) hn)
 ·rename_i hj0
  refine key _ (Nat.lt_of_lt_of_le ?_ hn)
  have hk2 : m.frm.length = 2 := by omega
  rw [hk2, Nat.pow_two] at hc
  exact Nat.div_lt_of_lt_mul hc
theorem OkG.step {out : List Tm} {m : Mv} {n c : Nat} (h : OkG a b syms out) (hm : m.sym ∈ syms) (hn : n ≤ out.length) (hk : m.frm.length ≤ 2) (hc : c < n ^ m.frm.length) : OkG a b syms (CE a b m n out c) := by
 have hmem := JU hn hk hc
 refine h.add (.mk ?_ fun x hx => (h.ok x (hmem x hx)).1) (.mk (by rw [Dw]; omega) fun x hx => (h.ok x (hmem x hx)).2)
 rw [Dw]
 exact hm
theorem OkG.steps {m : Mv} (hm : m.sym ∈ syms) {n : Nat} (hk : m.frm.length ≤ 2) : ∀ {cs : List Nat} {out : List Tm}, OkG a b syms out → n ≤ out.length → (∀ c ∈ cs, c < n ^ m.frm.length) → OkG a b syms (cs.foldl (CE a b m n) out)
 | [], out, h, _, _ => h
 | c :: cs, out, h, hn, hc => by
  show OkG a b syms (cs.foldl (CE a b m n) (CE a b m n out c))
  exact OkG.steps hm hk (h.step hm hn hk (hc c (by simp))) (Nat.le_trans hn (FD out c).length_le) fun x hx => hc x (by simp [hx])
theorem OkG.move {out : List Tm} {m : Mv} (h : OkG a b syms out) (hm : m.sym ∈ syms) (hk : m.frm.length ≤ 2) : OkG a b syms (Bf a b out m) := by
 unfold Bf
 split
 ·exact h
 ·exact OkG.steps hm hk h (Nat.le_refl _) fun c hc => List.mem_range.1 hc
theorem OkG.moves : ∀ {ms : List Mv} {out : List Tm}, (∀ m ∈ ms, m.sym ∈ syms ∧ m.frm.length ≤ 2) → OkG a b syms out → OkG a b syms (ms.foldl (Bf a b) out)
 | [], out, _, h => h
 | m :: ms, out, hm, h => by
  show OkG a b syms (ms.foldl (Bf a b) (Bf a b out m))
  exact OkG.moves (fun x hx => hm x (by simp [hx])) (h.move (hm m (by simp)).1 (hm m (by simp)).2)
variable {ms : List Mv}
theorem KP (hm : ∀ m ∈ ms, m.sym ∈ syms ∧ m.frm.length ≤ 2) : ∀ k, OkG a b syms (itG a b ms k)
 | 0 => ⟨List.nodup_nil, by simp [itG]⟩
 | k + 1 => OkG.moves hm (KP hm k)
theorem Fx (hm : ∀ m ∈ ms, m.sym ∈ syms ∧ m.frm.length ≤ 2) (ha : a.states ≤ 3) (hb : b.states ≤ 3) : ∃ k, k ≤ 64 ∧ itG a b ms (k + 1) = itG a b ms k := by
 by_cases h : ∃ k, k ≤ 64 ∧ itG a b ms (k + 1) = itG a b ms k
 ·exact h
 ·exfalso
  have hgrow : ∀ k, k ≤ 65 → k ≤ (itG a b ms k).length := fun k => by
   induction k with
   | zero => intro _; omega
   | succ k ih =>
    intro hk
    have h1 := ih (by omega)
    have hp := J3 (a := a) (b := b) (ms := ms) (itG a b ms k)
    have hne : ¬ itG a b ms (k + 1) = itG a b ms k := fun e => h ⟨k, by omega, e⟩
    have hl := hp.length_le
    have : (itG a b ms k).length ≠ (IC a b ms (itG a b ms k)).length := fun e => hne (hp.eq_of_length e).symm
    show k + 1 ≤ (IC a b ms (itG a b ms k)).length
    omega
  have h1 := hgrow 65 (Nat.le_refl _)
  have h2 := (KP (a := a) (b := b) hm 65).len ha hb
  omega
theorem Gi {k : Nat} (h : itG a b ms (k + 1) = itG a b ms k) : ∀ d, itG a b ms (k + d) = itG a b ms k
 | 0 => rfl
 | d + 1 => by
  show IC a b ms (itG a b ms (k + d)) = _
  rw [Gi h d]
  exact h
noncomputable def BT (a b : Au) (ms : List Mv) : List Tm := itG a b ms 64
theorem IX {k : Nat} (hm : ∀ m ∈ ms, m.sym ∈ syms ∧ m.frm.length ≤ 2) (ha : a.states ≤ 3) (hb : b.states ≤ 3) (h : itG a b ms (k + 1) = itG a b ms k) : itG a b ms k = BT a b ms := by
 obtain ⟨k0, h0, hs⟩ := Fx (a := a) (b := b) hm ha hb
 have e1 := Gi hs (64 - k0)
 rw [show k0 + (64 - k0) = 64 by omega] at e1
 unfold BT
 rw [e1]
 rcases Nat.le_total k k0 with hk | hk
 ·have := Gi h (k0 - k)
  rw [show k + (k0 - k) = k0 by omega] at this
  exact this.symm
 ·have := Gi hs (k - k0)
  rw [show k0 + (k - k0) = k by omega] at this
  exact this
theorem EQ (hm : ∀ m ∈ ms, m.sym ∈ syms ∧ m.frm.length ≤ 2) : OkG a b syms (BT a b ms) := KP hm 64
theorem Lq (hm : ∀ m ∈ ms, m.sym ∈ syms ∧ m.frm.length ≤ 2) (ha : a.states ≤ 3) (hb : b.states ≤ 3) : IC a b ms (BT a b ms) = BT a b ms := by
 obtain ⟨k0, h0, hs⟩ := Fx (a := a) (b := b) hm ha hb
 rw [← IX hm ha hb hs]
 exact hs
theorem G8 {α : Type} {f : List Tm → α → List Tm} (hp : ∀ out x, out <+: f out x) : ∀ {l : List α} {out : List Tm}, l.foldl f out = out → ∀ x ∈ l, f out x = out
 | [], out, h, x, hx => by cases hx
 | y :: l, out, h, x, hx => by
  have h1 : f out y = out := by
   have p1 := hp out y
   have p2 := DD hp l (f out y)
   have hl : (l.foldl f (f out y)).length = out.length := congrArg List.length h
   exact (p1.eq_of_length (by have := p1.length_le; have := p2.length_le; omega)).symm
  rcases List.mem_cons.1 hx with rfl | hx
  ·exact h1
  ·refine G8 hp (l := l) ?_ x hx
   have h : l.foldl f (f out y) = out := h
   rw [h1] at h
   exact h
theorem Rg (n : ByteArray) (ts : List Tm) : EW a b (.mk n ts) = nxt a b n (ts.map (EW a b)) := by
 unfold EW nxt
 rw [Au.ends_eq, Au.ends_eq, Au.endsL_eq, Au.endsL_eq, List.map_map, List.map_map]
 rfl
theorem Ix (hm : ∀ m ∈ ms, m.sym ∈ syms ∧ m.frm.length ≤ 2) (ha : a.states ≤ 3) (hb : b.states ≤ 3) {m : Mv} (hmm : m ∈ ms) {l : List J} (hl : l.length = m.frm.length) (hin : ∀ x ∈ l, x ∈ (BT a b ms).map (EW a b)) : nxt a b m.name l ∈ (BT a b ms).map (EW a b) := by
 have h1 := G8 (fun out m => G6 out m) (Lq (a := a) (b := b) hm ha hb) m hmm
 have hk := (hm m hmm).2
 obtain ⟨out, hout⟩ : ∃ out, BT a b ms = out := ⟨_, rfl⟩
 rw [hout] at h1 hin ⊢
 have hne : IU m out = false := by
  unfold IU
  rw [decide_eq_false (by omega), Bool.false_or]
  by_cases h0 : 0 < m.frm.length
  ·cases l with
   | nil => simp at hl; omega
   | cons x l =>
    have := List.length_pos_of_mem (hin x (by simp))
    rw [List.length_map] at this
    rw [decide_eq_false (p := out.length = 0) (by omega), Bool.and_false]
  ·rw [decide_eq_false h0, Bool.false_and]
 unfold Bf at h1
 rw [hne] at h1
 simp only [Bool.false_eq_true, if_false] at h1
 have hidx : ∀ x ∈ l, ∃ i, i < out.length ∧ EW a b (out.getD i tmZ) = x := fun x hx => by
  obtain ⟨t, ht, rfl⟩ := List.mem_map.1 (hin x hx)
  obtain ⟨i, hi⟩ := List.getElem?_of_mem ht
  exact ⟨i, (List.getElem?_eq_some_iff.1 hi).1, by rw [List.getD_eq_getElem?_getD, hi]; rfl⟩
 obtain ⟨c, hc, hce⟩ : ∃ c, c < out.length ^ m.frm.length ∧ (Cr out out.length m.frm.length c).map (EW a b) = l := by
  match hlm : m.frm.length, l, hl, hidx with
  | 0, [], _, _ => exact ⟨0, by simp, rfl⟩
  | 1, [x], _, hidx =>
   obtain ⟨i, hi, hx⟩ := hidx x (by simp)
   refine ⟨i, by simpa using hi, ?_⟩
   rw [List.getD_eq_getElem?_getD] at hx
   simp [Cr, Nat.mod_eq_of_lt hi, hx]
  | 2, [x, y], _, hidx =>
   obtain ⟨i, hi, hx⟩ := hidx x (by simp)
   obtain ⟨j, hj, hy⟩ := hidx y (by simp)
   have hn : 0 < out.length := by omega
   refine ⟨out.length * j + i, ?_, ?_⟩
   ·rw [Nat.pow_two]
    calc out.length * j + i < out.length * j + out.length := by omega
     _ = out.length * (j + 1) := by rw [Nat.mul_add, Nat.mul_one]
     _ ≤ out.length * out.length := Nat.mul_le_mul_left _ hj
   ·have e1 : (out.length * j + i) % out.length = i := by rw [Nat.mul_add_mod, Nat.mod_eq_of_lt hi]
    have e2 : (out.length * j + i) / out.length = j := by rw [Nat.mul_add_div hn, Nat.div_eq_of_lt hi, Nat.add_zero]
    rw [List.getD_eq_getElem?_getD] at hx hy
    simp [Cr, List.range_succ, e1, e2, hx, hy]
  | n + 3, _, _, _ => omega
 have h2 := G8 (fun out c => FD out c) h1 c (List.mem_range.2 hc)
 unfold CE at h2
 have h3 : EW a b (tG m out out.length c) = nxt a b m.name l := by unfold tG; rw [Rg, hce]
 unfold L8 at h2
 split at h2
 ·rename_i h4
  rw [h3] at h4
  exact h4
 ·exact absurd (congrArg List.length h2) (by simp)
theorem N4 (hm : ∀ m ∈ ms, m.sym ∈ syms ∧ m.frm.length ≤ 2) (hs : ∀ s ∈ syms, ∃ m ∈ ms, s = m.sym) (ha : a.states ≤ 3) (hb : b.states ≤ 3) {j : J} : j ∈ (BT a b ms).map (EW a b) ↔ Gen a b syms j := by
 refine ⟨(EQ hm).toJ.gen j, fun h => ?_⟩
 induction h with
 | @mk s l h1 hl _ ih =>
  obtain ⟨m, hmm, rfl⟩ := hs s h1
  exact Ix hm ha hb hmm hl ih
end
def CP (a b : Au) : List Mv := a.moves ++ b.moves
theorem Cv {a b : Au} (ha : Ak a = true) (hb : Ak b = true) : (∀ m ∈ CP a b, m.sym ∈ Ah [a, b] ∧ m.frm.length ≤ 2) ∧ ∀ s ∈ Ah [a, b], ∃ m ∈ CP a b, s = m.sym := by
 unfold Ak at ha hb
 simp only [Bool.and_eq_true, List.all_eq_true, decide_eq_true_eq] at ha hb
 refine ⟨fun m hm => ?_, fun s hs => ?_⟩
 ·unfold CP at hm
  rcases List.mem_append.1 hm with hm | hm
  ·exact ⟨Cl.2 ⟨a, by simp, m, hm, rfl⟩, ha.2 m hm⟩
  ·exact ⟨Cl.2 ⟨b, by simp, m, hm, rfl⟩, hb.2 m hm⟩
 ·obtain ⟨c, hc, m, hm, rfl⟩ := Cl.1 hs
  simp only [List.mem_cons, List.not_mem_nil, or_false] at hc
  rcases hc with rfl | rfl
  ·exact ⟨m, List.mem_append.2 (.inl hm), rfl⟩
  ·exact ⟨m, List.mem_append.2 (.inr hm), rfl⟩
theorem Iw {a b : Au} (ha : Ak a = true) (hb : Ak b = true) : ((BT a b (CP a b)).all fun t => !(a.acc t && !b.acc t)) = Ge a b := by
 obtain ⟨h1, h2⟩ := Cv ha hb
 have hs2 := IG ha hb
 have key := fun j => N4 (a := a) (b := b) h1 h2 (Aa ha) (Aa hb) (j := j)
 unfold Ge
 rw [Bool.eq_iff_iff, List.all_eq_true, List.all_eq_true]
 constructor
 ·intro h j hj
  obtain ⟨t, ht, rfl⟩ := List.mem_map.1 ((key j).2 ((Fw hs2 (Aa ha) (Aa hb)).1 hj))
  exact h t ht
 ·intro h t ht
  exact h _ ((Fw hs2 (Aa ha) (Aa hb)).2 ((key _).1 (List.mem_map.2 ⟨t, ht, rfl⟩)))

def Cp : IR :=
 (.seq (.ops [.i 1 (.box 25 (.t 0)), .i 2 (.mov (.n 0)), .i 3 (.mov (.n 0))]) (.seq (.ops [.L 28 3 1, .i 29 (.call 34 [.t 28]), .m 4 29]) (.seq (.seq (.ops [.m 30 4, .i 31 (.bin .eql (.t 30) (.n 0))]) (.cond (.t 31) (.ops [.L 32 3 1, .i 33 (.buildSlice false 25 3 [.t 32]), .i 34 (.call 30 [.t 33]), .m 4 34]) .skip)) (.seq (.seq (.ops [.m 35 4, .i 36 (.bin .neq (.t 35) (.n 0))]) (.cond (.t 36) (.seq (.ops [.m 37 4, .i 2 (.mov (.n 0)), .m 3 37]) .ret) .skip)) (.seq (.ops [.L 38 3 1, .i 39 (.buildSlice false 25 3 [.t 38]), .i 40 (.call 32 [.t 39]), .m 5 40]) (.seq (.ops [.L 41 3 1, .i 42 (.build [.st (.int .i64 0), .full [], .full []] []), .m 43 5, .i 44 (.call 31 [.t 41, .t 42, .t 43]), .i 6 (.alloc 61 [.full []]), .s 1 6 44]) (.seq (.ops [.i 45 (.makeMap (some (Go.Proofs.Ytkegjgodjigjfaa.KK.int .u64))), .i 7 (.alloc 70 [.st (.lit (.map none))]), .s 1 7 45]) (.seq (.seq (.ops [.l 46 6, .i 47 (.len false (.t 46)), .i 48 (.mov (.n 0))]) (.block 0 (.loop (.seq (.ops [.i 49 (.bin .lss (.t 48) (.t 47))]) (.seq (.cond (.t 49) .skip (.exit 0)) (.seq (.block 1 (.seq (.ops [.m 50 48, .i 51 (.indexAddr 2 (.t 46) (.t 48)), .L 52 2 51, .i 9 (.alloc 67 [.st (.int .u64 0), .st (.int .u64 0)]), .m 8 50, .s 2 9 52]) (.ops [.l 53 7, .f 54 0 9, .l 55 54, .m 56 8, .mk none none (.mapSet (some (Go.Proofs.Ytkegjgodjigjfaa.KK.int .u64)) (.t 53) (.t 55) (.t 56)) .no]))) (.ops [.i 57 (.bin .add (.t 48) (.n 1)), .m 48 57]))))))) (.seq (.ops [.l 58 6, .i 59 (.len false (.t 58)), .i 60 (.makeSlice 3 1 8 [.int .i64 0] (.t 59) (.t 59)), .i 10 (.alloc 23 [.full []]), .s 1 10 60]) (.seq (.seq (.ops [.l 61 6, .i 62 (.len false (.t 61)), .i 63 (.mov (.n 0))]) (.block 2 (.loop (.seq (.ops [.i 64 (.bin .lss (.t 63) (.t 62))]) (.seq (.cond (.t 64) .skip (.exit 2)) (.seq (.block 3 (.seq (.ops [.m 65 63, .i 66 (.indexAddr 2 (.t 61) (.t 63)), .L 67 2 66, .i 12 (.alloc 67 [.st (.int .u64 0), .st (.int .u64 0)]), .m 11 65, .s 2 12 67]) (.seq (.ops [.f 68 0 12, .l 69 68, .L 70 3 1, .i 71 (.call 33 [.t 70]), .i 72 (.bits .and (.t 69) (.t 71)), .i 73 (.bin .neq (.t 72) (.c (.one (.st (.int .u64 0)))))]) (.cond (.t 73) (.ops [.l 74 10, .m 75 11, .i 76 (.indexAddr 1 (.t 74) (.t 75)), .mk none none (.store 1 (.t 76) (.n 1)) .no]) .skip)))) (.ops [.i 77 (.bin .add (.t 63) (.n 1)), .m 63 77]))))))) (.seq (.ops [.i 13 (.mov (.n 0))]) (.block 4 (.loop (.block 5 (.seq (.ops [.i 78 (.makeMap none), .m 14 78]) (.seq (.ops [.l 79 6, .i 80 (.len false (.t 79)), .i 81 (.makeSlice 3 1 8 [.int .i64 0] (.t 80) (.t 80)), .m 15 81]) (.seq (.seq (.ops [.l 82 6, .i 83 (.len false (.t 82)), .i 84 (.mov (.n 0))]) (.block 6 (.loop (.seq (.ops [.i 85 (.bin .lss (.t 84) (.t 83))]) (.seq (.cond (.t 85) .skip (.exit 6)) (.seq (.block 7 (.seq (.ops [.m 86 84, .i 16 (.alloc 3 [.st (.int .i64 0)]), .s 1 16 86]) (.seq (.ops [.l 87 10, .l 88 16, .i 89 (.indexAddr 1 (.t 87) (.t 88)), .l 90 89, .i 91 (.bin .add (.t 90) (.n 1)), .i 92 (.conv .i32 (.t 91)), .i 93 (.strOf true (.t 92)), .i 17 (.alloc 9 [.st (.str (ByteArray.mk (#[])))]), .s 1 17 93]) (.seq (.seq (.ops [.m 94 5, .i 95 (.len false (.t 94)), .i 96 (.mov (.n 0))]) (.block 8 (.loop (.seq (.ops [.i 97 (.bin .lss (.t 96) (.t 95))]) (.seq (.cond (.t 97) .skip (.exit 8)) (.seq (.block 9 (.seq (.ops [.i 98 (.indexAddr 2 (.t 94) (.t 96)), .L 99 2 98, .i 19 (.alloc 72 [.st (.str (ByteArray.mk (#[]))), .st (.int .i64 0)]), .s 2 19 99]) (.seq (.ops [.l 100 6, .i 101 (.len false (.t 100)), .f 102 1 19, .l 103 102, .i 104 (.call 35 [.t 101, .t 103])]) (.block 10 (.rangeF (.t 104) [105] (.ops [.m 20 105]) (.block 11 (.seq (.ops [.m 106 20, .i 107 (.len false (.t 106)), .i 108 (.mov (.n 0))]) (.block 12 (.loop (.seq (.ops [.i 109 (.bin .lss (.t 108) (.t 107))]) (.seq (.cond (.t 109) .skip (.exit 12)) (.seq (.block 13 (.seq (.ops [.m 110 108, .m 21 110]) (.seq (.ops [.m 111 20, .m 112 21, .i 113 (.indexAddr 1 (.t 111) (.t 112)), .l 114 113, .m 22 114]) (.seq (.ops [.m 115 20, .m 116 21, .l 117 16, .i 118 (.indexAddr 1 (.t 115) (.t 116)), .s 1 118 117]) (.seq (.ops [.i 23 (.mov (.c (.one (.full []))))]) (.seq (.seq (.ops [.m 119 20, .i 120 (.len false (.t 119)), .i 121 (.mov (.n 0))]) (.block 14 (.loop (.seq (.ops [.i 122 (.bin .lss (.t 121) (.t 120))]) (.seq (.cond (.t 122) .skip (.exit 14)) (.seq (.block 15 (.seq (.ops [.i 123 (.indexAddr 1 (.t 119) (.t 121)), .l 124 123, .m 25 124]) (.ops [.m 125 23, .l 126 6, .m 127 25, .i 128 (.indexAddr 2 (.t 126) (.t 127)), .f 129 0 128, .l 130 129, .i 131 (.buildFlat [.t 130]), .i 132 (.append false 65 1 8 (.t 125) (.t 131)), .m 23 132]))) (.ops [.i 133 (.bin .add (.t 121) (.n 1)), .m 121 133]))))))) (.seq (.ops [.l 134 17, .l 135 10, .l 136 7, .L 137 3 1, .f 138 0 19, .l 139 138, .m 140 23, .i 141 (.call 36 [.t 137, .t 139, .t 140]), .i 142 (.lookup (some (Go.Proofs.Ytkegjgodjigjfaa.KK.int .u64)) false (.one (.st (.int .i64 0))) (.t 136) (.t 141)), .i 143 (.indexAddr 1 (.t 135) (.t 142)), .l 144 143, .i 145 (.bin .add (.t 144) (.n 1)), .i 146 (.conv .i32 (.t 145)), .i 147 (.strOf true (.t 146)), .i 148 (.bin .add (.t 134) (.t 147)), .s 1 17 148]) (.ops [.m 149 20, .m 150 21, .m 151 22, .i 152 (.indexAddr 1 (.t 149) (.t 150)), .s 1 152 151])))))))) (.ops [.i 153 (.bin .add (.t 108) (.n 1)), .m 108 153]))))))))))))) (.ops [.i 154 (.bin .add (.t 96) (.n 1)), .m 96 154]))))))) (.seq (.seq (.ops [.m 156 14, .l 157 17, .i 158 (.lookup none true (.one (.st (.int .i64 0))) (.t 156) (.t 157)), .m 155 158, .i 159 (.extract 0 (.t 155)), .i 160 (.extract 1 (.t 155)), .m 26 159, .m 27 160]) (.seq (.ops [.m 161 27, .i 162 (.un .not (.t 161))]) (.cond (.t 162) (.ops [.m 163 14, .l 164 17, .m 165 14, .i 166 (.lenM (.t 165)), .mk none none (.mapSet none (.t 163) (.t 164) (.t 166)) .no]) .skip))) (.ops [.m 167 15, .l 168 16, .m 169 14, .l 170 17, .i 171 (.lookup none false (.one (.st (.int .i64 0))) (.t 169) (.t 170)), .i 172 (.indexAddr 1 (.t 167) (.t 168)), .s 1 172 171])))))) (.ops [.i 173 (.bin .add (.t 84) (.n 1)), .m 84 173]))))))) (.seq (.seq (.ops [.m 174 14, .i 175 (.lenM (.t 174)), .m 176 13, .i 177 (.bin .eql (.t 175) (.t 176))]) (.cond (.t 177) (.seq (.ops [.m 178 13, .m 2 178, .i 3 (.mov (.n 0))]) .ret) .skip)) (.ops [.m 179 14, .i 180 (.lenM (.t 179)), .m 181 15, .m 13 180, .s 1 10 181])))))))))))))))))))
theorem Dn : OkF Try.prog 13 182 [] Cp [.t 2, .t 3] := .of Try.func13 rfl rfl (by kernel_rfl) rfl

end Go.Proofs.Ytkegjgodjigjfaa
