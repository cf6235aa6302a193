/-
  Part 6 of the texts. Conditions: none.
-/
import Derived.Test.YtkegjgodjigjfaaNer5
import Derived.Shelf.SlSortCmp.WholeK
import Derived.Shelf.SlSortCmp.NoneTotal
import Derived.Test.YtkegjgodjigjfaaProg
namespace Go.Proofs.Ytkegjgodjigjfaa
open Go Go.RowKit
set_option linter.unusedVariables false
set_option linter.unusedSimpArgs false
set_option maxHeartbeats 1000000
def AT (a : Au) : AG := .box 25 [.st (.int .i64 a.states), .st (.list (a.moves.map Ax)), .st (.list (a.last.map Bo))]
theorem Lo (a : Au) (x : Int) (b : Nat) (hb : 1000 ≤ b) (S : AA) (sb : S b = some (AT a)) : BR Try.prog 72 [AP x, .one (.ptr b 1 0 0)] S (Bk (!inS a.states x)) S := by
 refine Fj.acS fun hS C hC => ?_
 unfold DB
 unfold AT at sb
 by_cases h1 : x < 0
 ·have e : inS a.states x = false := MN (Or.inl h1)
  repeat' with_reducible first | refine W ?_ | refine Z0 ?_ | ((first | refine Wo fun K hK => ?_ | refine Wp ?_ | refine Wq ?_ | refine Wr ?_); (try simp only [go_sem, fN, seval, eT, iR, sb, h1, dT, dF, nL]); (repeat refine Ai ?_); (try (refine hK _ ?_; clear hK K)); try refine iC ?_)
  refine CX (Bk (!inS a.states x)) hS trivial ?_ ?_ fun j hj => ?_
  ·rw [e]
   rfl
  ·rfl
  ·rfl
 by_cases h2 : a.states ≤ x
 ·have e : inS a.states x = false := MN (Or.inr h2)
  repeat' with_reducible first | refine W ?_ | refine Z0 ?_ | ((first | refine Wo fun K hK => ?_ | refine Wp ?_ | refine Wq ?_ | refine Wr ?_); (try simp only [go_sem, fN, seval, eT, iR, sb, h1, h2, dT, dF, nL]); (repeat refine Ai ?_); (try (refine hK _ ?_; clear hK K)); try refine iC ?_)
  refine CX (Bk (!inS a.states x)) hS trivial ?_ ?_ fun j hj => ?_
  ·rw [e]
   rfl
  ·rfl
  ·rfl
 ·have e : inS a.states x = true := N9 h1 h2
  repeat' with_reducible first | refine W ?_ | refine Z0 ?_ | ((first | refine Wo fun K hK => ?_ | refine Wp ?_ | refine Wq ?_ | refine Wr ?_); (try simp only [go_sem, fN, seval, eT, iR, sb, h1, h2, dT, dF, nL]); (repeat refine Ai ?_); (try (refine hK _ ?_; clear hK K)); try refine iC ?_)
  refine CX (Bk (!inS a.states x)) hS trivial ?_ ?_ fun j hj => ?_
  ·rw [e]
   rfl
  ·rfl
  ·rfl
theorem Po {p : Int → Bool} (xs : List Int) : 0 ≤ (match xs.findIdx? p with | some i => (i : Int) | none => -1) ↔ xs.any p = true := by
 cases h : xs.findIdx? p with
 | some i =>
  rw [List.findIdx?_eq_some_iff_getElem] at h
  obtain ⟨h1, h2, _⟩ := h
  simp only [List.any_eq_true]
  exact ⟨fun _ => ⟨_, List.getElem_mem h1, h2⟩, fun _ => by omega⟩
 | none =>
  rw [List.findIdx?_eq_none_iff] at h
  constructor
  ·intro h'
   exact absurd h' (by decide)
  ·intro h'
   rw [List.any_eq_true] at h'
   obtain ⟨x, hx, hp⟩ := h'
   rw [h x hx] at hp
   cases hp
theorem LT {p : Int → Bool} {xs : List Int} {k : Nat} {x : Int} (hx : xs[k]? = some x) (h : (xs.take k).any p = false) (hp : p x = true) : xs.findIdx? p = some k := by
 obtain ⟨hk, he⟩ := List.getElem?_eq_some_iff.1 hx
 rw [List.findIdx?_eq_some_iff_getElem]
 refine ⟨hk, by rw [he]; exact hp, fun j hj => ?_⟩
 rw [List.any_eq_false] at h
 have := h (xs[j]'(by omega)) (by
  rw [List.mem_take_iff_getElem]
  exact ⟨j, by omega, rfl⟩)
 simpa using this
theorem JP (a : Au) (xs : List Int) (hl : xs.length ≤ 9223372036854775807) (b : Nat) (hb : 1000 ≤ b) (S : AA) (sb : S b = some (AT a)) :
  BR Try.prog 87 [EM xs, .one (.fn 72 [.ptr b 1 0 0])] S (AP (match xs.findIdx? (fun x => !inS a.states x) with | some i => (i : Int) | none => -1)) S := by
 refine Cq.acS fun hS C hC => ?_
 unfold Bb
 repeat' with_reducible first | refine W ?_ | refine Z0 ?_ | ((first | refine Wo fun K hK => ?_ | refine Wp ?_ | refine Wq ?_ | refine Wr ?_); (try simp only [go_sem, fN, seval, eT, iR, dT, dF, nL]); (repeat refine Ai ?_); (try (refine hK _ ?_; clear hK K)); try refine iC ?_)
 refine IWP.loop (fun n s => ∃ k, k ≤ xs.length ∧ n = xs.length - k ∧ (xs.take k).any (fun x => !inS a.states x) = false ∧ s.env 0 = EM xs ∧ s.env 1 = .one (.fn 72 [.ptr b 1 0 0]) ∧ s.env 7 = AP xs.length ∧ s.env 8 = AP k ∧ s.S = S) xs.length ⟨0, Nat.zero_le _, rfl, rfl, rfl, rfl, rfl, rfl, rfl⟩ ?_
 rintro n ⟨env, S'⟩ ⟨k, hk, rfl, hp, e0, e1, e7, e8, eS⟩
 simp only at e0 e1 e7 e8 eS
 subst eS
 by_cases hlt : (k : Int) < xs.length
 ·obtain ⟨x, hx⟩ := Aq (show k < xs.length by omega)
  have hst := M4 (p := fun x => !inS a.states x) hx hp
  have hc := Lo a x (up1 b) (Ba b) (upS S') (by rw [B8, sb]; rfl)
  repeat' with_reducible first | refine W ?_ | refine Z0 ?_ | ((first | refine Wo fun K hK => ?_ | refine Wp ?_ | refine Wq ?_ | refine Wr ?_); (try simp only [go_sem, fN, seval, eT, iR, e0, e1, e7, e8, hlt, hx, dT, dF, nL]); (repeat refine Ai ?_); (try (refine hK _ ?_; clear hK K)); try refine iC ?_)
  first | refine ⟨by kernel_rfl, _, _, hc, ?_⟩ | refine ⟨_, _, hc, ?_⟩
  by_cases hr : (!inS a.states x) = true
  ·have hi := LT (p := fun x => !inS a.states x) hx hp hr
   repeat' with_reducible first | refine W ?_ | refine Z0 ?_ | ((first | refine Wo fun K hK => ?_ | refine Wp ?_ | refine Wq ?_ | refine Wr ?_); (try simp only [go_sem, fN, seval, eT, iR, e0, e1, e7, e8, hr, dT, dF, nL]); (repeat refine Ai ?_); (try (refine hK _ ?_; clear hK K)); try refine iC ?_)
   refine CX (AP k) hS trivial ?_ ?_ fun j hj => ?_
   ·simp [AO, AR, Av, AF]
   ·rw [hi]
    rfl
   ·rfl
  ·have hr' : (!inS a.states x) = false := by simpa using hr
   repeat' with_reducible first | refine W ?_ | refine Z0 ?_ | ((first | refine Wo fun K hK => ?_ | refine Wp ?_ | refine Wq ?_ | refine Wr ?_); (try simp only [go_sem, fN, seval, eT, iR, e0, e1, e7, e8, hr', dT, dF, nL]); (repeat refine Ai ?_); (try (refine hK _ ?_; clear hK K)); try refine iC ?_)
   refine AI ⟨xs.length - (k + 1), by omega, k + 1, by omega, rfl, ?_⟩
   simp only [go_sem, fN, seval, eT, iR, e0, e1, e7, e8]
   exact ⟨by rw [hst]; exact hr', by congr 3⟩
 ·rw [List.take_of_length_le (by omega)] at hp
  have hi : xs.findIdx? (fun x => !inS a.states x) = none := by
   rw [List.findIdx?_eq_none_iff]
   intro x hx
   rw [List.any_eq_false] at hp
   simpa using hp x hx
  repeat' with_reducible first | refine W ?_ | refine Z0 ?_ | ((first | refine Wo fun K hK => ?_ | refine Wp ?_ | refine Wq ?_ | refine Wr ?_); (try simp only [go_sem, fN, seval, eT, iR, e0, e1, e7, e8, hlt, dT, dF, nL]); (repeat refine Ai ?_); (try (refine hK _ ?_; clear hK K)); try refine iC ?_)
  refine CX (AP (-1)) hS trivial ?_ ?_ fun j hj => ?_
  ·simp [AO, AR, Av, AF]
  ·rw [hi]
   rfl
  ·rfl
theorem Gf (a : Au) (xs : List Int) (hl : xs.length ≤ 9223372036854775807) (b : Nat) (hb : 1000 ≤ b) (S : AA) (sb : S b = some (AT a)) :
  BR Try.prog 71 [EM xs, .one (.fn 72 [.ptr b 1 0 0])] S (Bk (!xs.all (inS a.states))) S := by
 have hi := Po (p := fun x => !inS a.states x) xs
 rw [List.not_all_eq_any_not]
 generalize (xs.any fun x => !inS a.states x) = bb at hi ⊢
 refine CP.acS fun hS C hC => ?_
 unfold BP
 repeat' with_reducible first | refine W ?_ | refine Z0 ?_ | ((first | refine Wo fun K hK => ?_ | refine Wp ?_ | refine Wq ?_ | refine Wr ?_); (try simp only [go_sem, fN, seval, eT, iR, dT, dF, nL]); (repeat refine Ai ?_); (try (refine hK _ ?_; clear hK K)); try refine iC ?_)
 refine ⟨_, _, JP a xs hl (up1 b) (Ba b) (upS S) (by rw [B8, sb]; rfl), ?_⟩
 generalize (match xs.findIdx? (fun x => !inS a.states x) with | some i => (i : Int) | none => -1) = q at hi
 repeat' with_reducible first | refine W ?_ | refine Z0 ?_ | ((first | refine Wo fun K hK => ?_ | refine Wp ?_ | refine Wq ?_ | refine Wr ?_); (try simp only [go_sem, fN, seval, eT, iR, hi, dT, dF, nL]); (repeat refine Ai ?_); (try (refine hK _ ?_; clear hK K)); try refine iC ?_)
 refine CX (Bk bb) hS trivial ?_ ?_ fun j hj => ?_
 ·simp [AO, AR, Av, AF]
 ·rfl
 ·rfl
theorem MV {S : Int} {m : Mv} (h1 : BD m.name = true) (h2 : ¬ Ch m.name = true) (h3 : ¬ 4 < m.frm.length) {s : Int} (hs : s ∈ m.frm ++ [m.to_]) (h : s < 0 ∨ S ≤ s) : m.err S = 10 := by
 rcases List.mem_append.1 hs with hs | hs
 ·exact Pt h1 h2 h3 hs h
 ·rw [List.mem_singleton] at hs
  subst hs
  exact QR h1 h2 h3 h
theorem P3 {S : Int} {m : Mv} (h1 : BD m.name = true) (h2 : ¬ Ch m.name = true) (h3 : ¬ 4 < m.frm.length) (h : (m.frm ++ [m.to_]).all (inS S) = true) : m.err S = 0 := by
 rw [List.all_append, Bool.and_eq_true] at h
 exact Nq h1 h2 h3 h.1 (by simpa using h.2)
theorem NX (a : Au) (S M : Int) : A0 Try.prog 56 [aAu a, AP S, AP M] (AP (a.may S M)) := by
 by_cases h1 : a.states < 0
 ·have e : a.may S M = 3 := if_pos (Or.inl h1)
  rw [e]
  refine By.ac fun C hC => ?_
  unfold BW
  repeat' with_reducible first | refine W ?_ | refine Z0 ?_ | ((first | refine Wo fun K hK => ?_ | refine Wp ?_ | refine Wq ?_ | refine Wr ?_); (try simp only [go_sem, fN, seval, eT, iR, h1, dT, dF, nL]); (repeat refine Ai ?_); (try (refine hK _ ?_; clear hK K)); try refine iC ?_)
  simp only [go_sem, fN, seval, A6, AS.result, AO, AR, Av]
 by_cases h2 : S < a.states
 ·have e : a.may S M = 3 := if_pos (Or.inr (Or.inl h2))
  rw [e]
  refine By.ac fun C hC => ?_
  unfold BW
  repeat' with_reducible first | refine W ?_ | refine Z0 ?_ | ((first | refine Wo fun K hK => ?_ | refine Wp ?_ | refine Wq ?_ | refine Wr ?_); (try simp only [go_sem, fN, seval, eT, iR, h1, h2, dT, dF, nL]); (repeat refine Ai ?_); (try (refine hK _ ?_; clear hK K)); try refine iC ?_)
  simp only [go_sem, fN, seval, A6, AS.result, AO, AR, Av]
 by_cases h3 : M < a.moves.length
 ·have e : a.may S M = 3 := if_pos (Or.inr (Or.inr h3))
  rw [e]
  refine By.ac fun C hC => ?_
  unfold BW
  repeat' with_reducible first | refine W ?_ | refine Z0 ?_ | ((first | refine Wo fun K hK => ?_ | refine Wp ?_ | refine Wq ?_ | refine Wr ?_); (try simp only [go_sem, fN, seval, eT, iR, h1, h2, h3, dT, dF, nL]); (repeat refine Ai ?_); (try (refine hK _ ?_; clear hK K)); try refine iC ?_)
  simp only [go_sem, fN, seval, A6, AS.result, AO, AR, Av]
 have h0 : ¬ (a.states < 0 ∨ S < a.states ∨ M < a.moves.length) := by omega
 refine By.ac fun C hC => ?_
 unfold BW
 refine IWP.learn 0 (by omega) fun hkn => ?_
 obtain ⟨kM, kL, kF⟩ := Nm hkn
 repeat' with_reducible first | refine W ?_ | refine Z0 ?_ | ((first | refine Wo fun K hK => ?_ | refine Wp ?_ | refine Wq ?_ | refine Wr ?_); (try simp only [go_sem, fN, seval, eT, iR, h1, h2, h3, dT, dF, nL]); (repeat refine Ai ?_); (try (refine hK _ ?_; clear hK K)); try refine iC ?_)
 refine IWP.loopD [8, 49] (fun n s => ∃ k, k ≤ a.moves.length ∧ n = a.moves.length - k ∧ s.env 3 = .one (.ptr 3 1 0 0) ∧ s.S 3 = some (AT a) ∧ s.env 28 = .one (.st (.list (a.moves.map Ax))) ∧ s.env 29 = AP a.moves.length ∧ s.env 30 = AP k ∧ s.S 8 = none ∧ s.S 49 = none ∧ BA a.states (a.moves.take k) = 0) a.moves.length ⟨0, Nat.zero_le _, rfl, rfl, rfl, rfl, rfl, rfl, rfl, rfl, rfl⟩ ?_
 rintro n ⟨env, St⟩ ⟨k, hk, rfl, e3, s3, e28, e29, e30, s8, s49, hno⟩
 simp only at e3 s3 e28 e29 e30 s8 s49
 unfold AT at s3
 by_cases hlt : (k : Int) < a.moves.length
 ·obtain ⟨m, hm⟩ := Aq (show k < a.moves.length by omega)
  have hmm := AY hm
  have hst := ER hm hno
  by_cases g1 : BD m.name = true
  case neg =>
   have e := EO h0 hm hno (PM g1) (by decide)
   repeat' (first | (with_reducible first | refine W ?_ | refine Z0 ?_ | ((first | refine Wo fun K hK => ?_ | refine Wp ?_ | refine Wq ?_ | refine Wr ?_); (try simp only [go_sem, fN, seval, eT, iR, e3, s3, e28, e29, e30, s8, s49, hlt, hm, Ax, g1, dT, dF, nL]); (repeat refine Ai ?_); (try (refine hK _ ?_; clear hK K)); try refine iC ?_)) | refine Cg _ (I6 m.name) ?_)
   simp only [go_sem, fN, seval, A6, AS.result, AO, AR, Av, e]
  case pos =>
  by_cases g2 : Ch m.name = true
  ·have e := EO h0 hm hno (Pu g2) (by decide)
   repeat' (first | (with_reducible first | refine W ?_ | refine Z0 ?_ | ((first | refine Wo fun K hK => ?_ | refine Wp ?_ | refine Wq ?_ | refine Wr ?_); (try simp only [go_sem, fN, seval, eT, iR, e3, s3, e28, e29, e30, s8, s49, hlt, hm, Ax, g1, g2, dT, dF, nL]); (repeat refine Ai ?_); (try (refine hK _ ?_; clear hK K)); try refine iC ?_)) | refine Cg _ (I6 m.name) ?_ | refine Cg _ (E9 m.name) ?_)
   simp only [go_sem, fN, seval, A6, AS.result, AO, AR, Av, e]
  by_cases g3 : (4 : Int) < m.frm.length
  ·have e := EO h0 hm hno (P6 g1 g2 (by omega)) (by decide)
   repeat' (first | (with_reducible first | refine W ?_ | refine Z0 ?_ | ((first | refine Wo fun K hK => ?_ | refine Wp ?_ | refine Wq ?_ | refine Wr ?_); (try simp only [go_sem, fN, seval, eT, iR, e3, s3, e28, e29, e30, s8, s49, hlt, hm, Ax, g1, g2, g3, dT, dF, nL]); (repeat refine Ai ?_); (try (refine hK _ ?_; clear hK K)); try refine iC ?_)) | refine Cg _ (I6 m.name) ?_ | refine Cg _ (E9 m.name) ?_)
   simp only [go_sem, fN, seval, A6, AS.result, AO, AR, Av, e]
  have g3' : ¬ 4 < m.frm.length := by omega
  have gb : (m.frm.length + 1) * 8 ≤ 140737488355328 := by omega
  repeat' (first | (with_reducible first | refine W ?_ | refine Z0 ?_ | ((first | refine Wo fun K hK => ?_ | refine Wp ?_ | refine Wq ?_ | refine Wr ?_); (try simp only [go_sem, fN, seval, eT, iR, e3, s3, e28, e29, e30, s8, s49, hlt, hm, Ax, g1, g2, g3, dT, dF, nL]); (repeat refine Ai ?_); (try (refine hK _ ?_; clear hK K)); try refine iC ?_)) | refine Cg _ (I6 m.name) ?_ | refine Cg _ (E9 m.name) ?_)
  refine ⟨_, _, _, _, PR m.frm (by omega), by simp [AF, s49], ?_⟩
  repeat' with_reducible first | refine W ?_ | refine Z0 ?_ | ((first | refine Wo fun K hK => ?_ | refine Wp ?_ | refine Wq ?_ | refine Wr ?_); (try simp only [go_sem, fN, seval, eT, iR, e3, s3, e28, e29, e30, s8, s49, gb, dT, dF, nL]); (repeat refine Ai ?_); (try (refine hK _ ?_; clear hK K)); try refine iC ?_)
  have kFm : (m.frm ++ [m.to_]).length = m.frm.length + 1 := by simp
  refine IWP.loop (fun n s => ∃ j, j ≤ m.frm.length + 1 ∧ n = m.frm.length + 1 - j ∧ s.env 3 = .one (.ptr 3 1 0 0) ∧ s.S 3 = some (AT a) ∧ s.env 28 = .one (.st (.list (a.moves.map Ax))) ∧ s.env 29 = AP a.moves.length ∧ s.env 30 = AP k ∧ s.env 53 = .one (.row 49 (m.frm.length + 1)) ∧ s.S 49 = some (.arow 3 1 ((m.frm ++ [m.to_]).map Bo)) ∧ s.env 54 = AP ((m.frm.length + 1 : Nat) : Int) ∧ s.env 55 = AP j ∧ ((m.frm ++ [m.to_]).take j).all (inS a.states) = true) (m.frm.length + 1) ⟨0, Nat.zero_le _, rfl, by simpa [AF] using e3, by simpa [AF, AT] using s3, by simpa [AF] using e28, by simpa [AF] using e29, by simpa [AF] using e30, by simp [AF], by simp [AF], by simp [AF], by simp [AF], rfl⟩ ?_
  rintro n ⟨env2, S2⟩ ⟨j, hj, rfl, f3, t3, f28, f29, f30, f53, t49, f54, f55, hall⟩
  simp only at f3 t3 f28 f29 f30 f53 t49 f54 f55
  unfold AT at t3
  by_cases hjl : (j : Int) < ((m.frm.length + 1 : Nat) : Int)
  ·obtain ⟨s, hs⟩ := Aq (show j < (m.frm ++ [m.to_]).length by omega)
   have hst2 := EY hs hall
   generalize hL : m.frm ++ [m.to_] = L at *
   have kL' : ¬ m.frm.length + 1 < L.length := by omega
   by_cases g4 : s < 0
   ·have e := EO h0 hm hno (MV g1 g2 g3' (by rw [hL]; exact AY hs) (Or.inl g4)) (by decide)
    repeat' with_reducible first | refine W ?_ | refine Z0 ?_ | ((first | refine Wo fun K hK => ?_ | refine Wp ?_ | refine Wq ?_ | refine Wr ?_); (try simp only [go_sem, fN, seval, eT, iR, f3, t3, f28, f29, f30, f53, t49, f54, f55, hjl, hs, g4, kFm, dT, dF, nL]); (repeat refine Ai ?_); (try (refine hK _ ?_; clear hK K)); try refine iC ?_)
    simp only [go_sem, fN, seval, A6, AS.result, AO, AR, Av, e]
   by_cases g5 : a.states ≤ s
   ·have e := EO h0 hm hno (MV g1 g2 g3' (by rw [hL]; exact AY hs) (Or.inr g5)) (by decide)
    repeat' with_reducible first | refine W ?_ | refine Z0 ?_ | ((first | refine Wo fun K hK => ?_ | refine Wp ?_ | refine Wq ?_ | refine Wr ?_); (try simp only [go_sem, fN, seval, eT, iR, f3, t3, f28, f29, f30, f53, t49, f54, f55, hjl, hs, g4, g5, kFm, dT, dF, nL]); (repeat refine Ai ?_); (try (refine hK _ ?_; clear hK K)); try refine iC ?_)
    simp only [go_sem, fN, seval, A6, AS.result, AO, AR, Av, e]
   ·repeat' with_reducible first | refine W ?_ | refine Z0 ?_ | ((first | refine Wo fun K hK => ?_ | refine Wp ?_ | refine Wq ?_ | refine Wr ?_); (try simp only [go_sem, fN, seval, eT, iR, f3, t3, f28, f29, f30, f53, t49, f54, f55, hjl, hs, g4, g5, kFm, dT, dF, nL]); (repeat refine Ai ?_); (try (refine hK _ ?_; clear hK K)); try refine iC ?_)
    refine AI ⟨m.frm.length + 1 - (j + 1), by omega, j + 1, by omega, rfl, ?_⟩
    simp only [go_sem, fN, seval, eT, iR, f3, t3, f28, f29, f30, f53, t49, f54, f55]
    exact ⟨rfl, by congr 3, by rw [hst2]; exact N9 g4 g5⟩
  ·rw [List.take_of_length_le (by omega)] at hall
   repeat' with_reducible first | refine W ?_ | refine Z0 ?_ | ((first | refine Wo fun K hK => ?_ | refine Wp ?_ | refine Wq ?_ | refine Wr ?_); (try simp only [go_sem, fN, seval, eT, iR, f3, t3, f28, f29, f30, f53, t49, f54, f55, hjl, dT, dF, nL]); (repeat refine Ai ?_); (try (refine hK _ ?_; clear hK K)); try refine iC ?_)
   refine AI ⟨a.moves.length - (k + 1), by omega, k + 1, by omega, rfl, ?_⟩
   simp only [go_sem, fN, seval, AS.drop, Ag, AC.clears, AC.clear, AC.highs, AC.high, Bool.not_false, Bool.true_and, Bool.and_self, AV.purge, AV.purges, AC.purge, AG.purge, List.contains_cons, List.contains_nil, Nat.reduceBEq, Bool.or_self, Bool.or_false, Bool.false_or, Bool.or_true, eT, iR, f3, t3, f28, f29, f30, f53, t49, f54, f55]
   exact ⟨rfl, by congr 3, by rw [hst]; exact P3 g1 g2 g3' hall⟩
 ·rw [List.take_of_length_le (by omega)] at hno
  have e := PI (S := S) (M := M) h0 hno
  repeat' with_reducible first | refine W ?_ | refine Z0 ?_ | ((first | refine Wo fun K hK => ?_ | refine Wp ?_ | refine Wq ?_ | refine Wr ?_); (try simp only [go_sem, fN, seval, eT, iR, e3, s3, e28, e29, e30, hlt, AS.caps, dT, dF, nL]); (repeat refine Ai ?_); (try (refine hK _ ?_; clear hK K)); try refine iC ?_)
  refine ⟨_, _, Gf a a.last (by omega) (up1 3) (Ba 3) _ (by rw [B8, s3]; rfl), ?_⟩
  by_cases hall : a.last.all (inS a.states) = true
  ·rw [hall, if_pos rfl] at e
   repeat' with_reducible first | refine W ?_ | refine Z0 ?_ | ((first | refine Wo fun K hK => ?_ | refine Wp ?_ | refine Wq ?_ | refine Wr ?_); (try simp only [go_sem, fN, seval, eT, iR, e3, s3, e28, e29, e30, hall, dT, dF, nL]); (repeat refine Ai ?_); (try (refine hK _ ?_; clear hK K)); try refine iC ?_)
   simp only [go_sem, fN, seval, A6, AS.result, AO, AR, Av, e]
  ·have hall' : a.last.all (inS a.states) = false := by simpa using hall
   rw [hall', if_neg (by decide)] at e
   repeat' with_reducible first | refine W ?_ | refine Z0 ?_ | ((first | refine Wo fun K hK => ?_ | refine Wp ?_ | refine Wq ?_ | refine Wr ?_); (try simp only [go_sem, fN, seval, eT, iR, e3, s3, e28, e29, e30, hall', dT, dF, nL]); (repeat refine Ai ?_); (try (refine hK _ ?_; clear hK K)); try refine iC ?_)
   simp only [go_sem, fN, seval, A6, AS.result, AO, AR, Av, e]
theorem EZ (a : Au) : A0 Try.prog 34 [aAu a] (AP (a.may 8 40)) := by
 refine H2.ac fun C hC => ?_
 unfold Ep
 repeat' (first | (with_reducible first | refine W ?_ | refine Z0 ?_ | ((first | refine Wo fun K hK => ?_ | refine Wp ?_ | refine Wq ?_ | refine Wr ?_); (try simp only [go_sem, fN, seval, eT, iR, dT, dF, nL]); (repeat refine Ai ?_); (try (refine hK _ ?_; clear hK K)); try refine iC ?_)) | refine Cg _ (NX a 8 40) ?_)
 simp only [go_sem, fN, seval, A6, AS.result, AO, AR, Av]
def Cl (a b : Au) : Int := if a.may 8 40 = 0 then b.may 8 40 else a.may 8 40
theorem QG (a b : Au) : A0 Try.prog 29 [aAu a, aAu b] (AP (Cl a b)) := by
 unfold Cl
 by_cases h : a.may 8 40 = 0
 ·rw [if_pos h]
  refine Fm.ac fun C hC => ?_
  unfold Di
  repeat' (first | (with_reducible first | refine W ?_ | refine Z0 ?_ | ((first | refine Wo fun K hK => ?_ | refine Wp ?_ | refine Wq ?_ | refine Wr ?_); (try simp only [go_sem, fN, seval, eT, iR, h, dT, dF, nL]); (repeat refine Ai ?_); (try (refine hK _ ?_; clear hK K)); try refine iC ?_)) | refine Cg _ (EZ a) ?_ | refine Cg _ (EZ b) ?_)
  simp only [go_sem, fN, seval, A6, AS.result, AO, AR, Av]
 ·rw [if_neg h]
  refine Fm.ac fun C hC => ?_
  unfold Di
  repeat' (first | (with_reducible first | refine W ?_ | refine Z0 ?_ | ((first | refine Wo fun K hK => ?_ | refine Wp ?_ | refine Wq ?_ | refine Wr ?_); (try simp only [go_sem, fN, seval, eT, iR, h, dT, dF, nL]); (repeat refine Ai ?_); (try (refine hK _ ?_; clear hK K)); try refine iC ?_)) | refine Cg _ (EZ a) ?_)
  simp only [go_sem, fN, seval, A6, AS.result, AO, AR, Av]

set_option maxHeartbeats 2000000


theorem Hc : ∀ {bs : List (List Bool)} {ss : List Int} {j : Nat} {b : List Bool} {s : Int}, bs[j]? = some b → ss[j]? = some s → Be (bs.take (j + 1)) (ss.take (j + 1)) = (Be (bs.take j) (ss.take j) && b.getD s.toNat false)
 | b0 :: bs, s0 :: ss, 0, b, s, hb, hs => by
  simp at hb hs
  subst hb hs
  simp [Be]
 | b0 :: bs, s0 :: ss, j + 1, b, s, hb, hs => by
  simp only [List.take_succ_cons, Be]
  rw [Hc (by simpa using hb) (by simpa using hs), Bool.and_assoc]
 | [], _, _, _, _, hb, _ => by simp at hb
 | _ :: _, [], _, _, _, _, hs => by simp at hs
theorem Il : ∀ {bs : List (List Bool)} {ss : List Int}, ¬ ss.length = bs.length → Be bs ss = false
 | [], [], h => absurd rfl h
 | [], _ :: _, _ => rfl
 | _ :: _, [], _ => rfl
 | b :: bs, s :: ss, h => by
  rw [Be, Il (fun e => h (by simp [e]))]
  simp


set_option maxRecDepth 100000
def BE : IR :=
 (.seq (.ops [.i 6 (.mov (.c (.one (.st (.bool false)))))]) (.seq (.seq (.ops [.m 24 0, .i 25 (.len false (.t 24)), .i 26 (.bin .gtr (.t 25) (.n 256))]) (.cond (.t 26) (.seq (.ops [.i 6 (.mov (.c (.one (.st (.bool true)))))]) .ret) .skip)) (.seq (.ops [.m 27 1, .i 28 (.call 15 [.t 27, .n 2]), .i 29 (.bin .add (.n 1) (.t 28)), .m 7 29]) (.seq (.ops [.m 30 0, .m 31 7, .m 32 2, .i 33 (.call 15 [.t 32, .n 9]), .i 34 (.call 14 [.t 30, .n 0, .t 31, .t 33]), .i 8 (.alloc 25 [.st (.int .i64 0), .full [], .full []]), .s 3 8 34]) (.seq (.ops [.m 35 7, .i 36 (.bin .add (.t 35) (.n 1)), .i 37 (.build [.st (.int .i64 0), .full [], .full []] [(0, 1, .t 36)]), .i 9 (.alloc 25 [.st (.int .i64 0), .full [], .full []]), .s 3 9 37]) (.seq (.seq (.ops [.i 10 (.mov (.n 0))]) (.block 0 (.loop (.seq (.seq (.ops [.m 38 10, .f 39 1 8, .l 40 39, .i 41 (.len false (.t 40)), .i 42 (.bin .lss (.t 38) (.t 41))]) (.cond (.t 42) .skip (.exit 0))) (.seq (.block 1 (.seq (.ops [.f 45 1 8, .l 46 45, .m 47 10, .i 48 (.indexAddr 3 (.t 46) (.t 47)), .f 49 0 48, .l 50 49, .m 51 7, .f 52 1 8, .l 53 52, .m 54 10, .i 55 (.indexAddr 3 (.t 53) (.t 54)), .f 56 2 55, .l 57 56, .i 58 (.bin .sub (.t 51) (.t 57)), .i 59 (.build [.st (.str (ByteArray.mk (#[]))), .full [], .st (.int .i64 0)] [(0, 1, .t 50), (2, 1, .t 58)]), .i 11 (.alloc 46 [.st (.str (ByteArray.mk (#[]))), .full [], .st (.int .i64 0)]), .s 3 11 59]) (.seq (.seq (.ops [.i 12 (.mov (.n 0))]) (.block 2 (.loop (.seq (.seq (.ops [.m 60 12, .f 61 1 8, .l 62 61, .m 63 10, .i 64 (.indexAddr 3 (.t 62) (.t 63)), .f 65 1 64, .l 66 65, .i 67 (.len false (.t 66)), .i 68 (.bin .lss (.t 60) (.t 67))]) (.cond (.t 68) .skip (.exit 2))) (.seq (.block 3 (.ops [.f 71 1 11, .l 72 71, .m 73 7, .f 74 1 8, .l 75 74, .m 76 10, .i 77 (.indexAddr 3 (.t 75) (.t 76)), .f 78 1 77, .l 79 78, .m 80 12, .i 81 (.indexAddr 1 (.t 79) (.t 80)), .l 82 81, .i 83 (.bin .sub (.t 73) (.t 82)), .i 84 (.buildFlat [.t 83]), .i 85 (.append false 3 1 8 (.t 72) (.t 84)), .f 86 1 11, .s 1 86 85])) (.ops [.m 69 12, .i 70 (.bin .add (.t 69) (.n 1)), .m 12 70])))))) (.ops [.f 87 1 9, .l 88 87, .L 89 3 11, .i 90 (.buildSlice false 46 3 [.t 89]), .i 91 (.append false 46 3 48 (.t 88) (.t 90)), .f 92 1 9, .s 1 92 91])))) (.ops [.m 43 10, .i 44 (.bin .add (.t 43) (.n 1)), .m 10 44])))))) (.seq (.seq (.ops [.i 13 (.mov (.n 0))]) (.block 4 (.loop (.seq (.seq (.ops [.m 93 13, .f 94 2 8, .l 95 94, .i 96 (.len false (.t 95)), .i 97 (.bin .lss (.t 93) (.t 96))]) (.cond (.t 97) .skip (.exit 4))) (.seq (.block 5 (.ops [.f 100 2 9, .l 101 100, .m 102 7, .f 103 2 8, .l 104 103, .m 105 13, .i 106 (.indexAddr 1 (.t 104) (.t 105)), .l 107 106, .i 108 (.bin .sub (.t 102) (.t 107)), .i 109 (.buildFlat [.t 108]), .i 110 (.append false 3 1 8 (.t 101) (.t 109)), .f 111 2 9, .s 1 111 110])) (.ops [.m 98 13, .i 99 (.bin .add (.t 98) (.n 1)), .m 13 99])))))) (.seq (.ops [.L 113 3 8, .L 114 3 9, .i 115 (.call 12 [.t 113, .t 114]), .m 112 115, .i 116 (.extract 0 (.t 112)), .i 117 (.extract 1 (.t 112)), .m 14 116, .m 15 117]) (.seq (.ops [.L 119 3 9, .L 120 3 8, .i 121 (.call 12 [.t 119, .t 120]), .m 118 121, .i 122 (.extract 0 (.t 118)), .i 123 (.extract 1 (.t 118)), .m 16 122, .m 17 123]) (.seq (.ops [.L 125 3 8, .i 126 (.call 13 [.t 125]), .m 124 126, .i 127 (.extract 0 (.t 124)), .i 128 (.extract 1 (.t 124)), .m 18 127, .m 19 128]) (.seq (.ops [.L 130 3 9, .i 131 (.call 13 [.t 130]), .m 129 131, .i 132 (.extract 0 (.t 129)), .i 133 (.extract 1 (.t 129)), .m 20 132, .m 21 133]) (.seq (.ops [.i 135 (.build [.st (.str (ByteArray.mk (#[]))), .full [], .st (.int .i64 0)] [(0, 1, .c (.one (.st (.str (ByteArray.mk (#[97]))))))]), .i 136 (.buildFlat [.n 0]), .i 137 (.build [.st (.str (ByteArray.mk (#[]))), .full [], .st (.int .i64 0)] [(0, 1, .c (.one (.st (.str (ByteArray.mk (#[104])))))), (1, 1, .t 136)]), .i 138 (.buildSlice false 46 3 [.t 135, .t 137]), .i 139 (.buildFlat [.n 0]), .i 140 (.build [.st (.int .i64 0), .full [], .full []] [(0, 1, .n 1), (1, 1, .t 138), (2, 1, .t 139)]), .i 141 (.call 13 [.t 140]), .m 134 141, .i 142 (.extract 0 (.t 134)), .i 143 (.extract 1 (.t 134)), .m 22 142, .m 23 143]) (.seq (.ops [.m 144 15, .i 145 (.bin .eql (.t 144) (.n 0)), .m 146 145, .mk (some 147) (some (146, true)) (.mov (.t 17)) .no, .mk (some 148) (some (146, true)) (.bin .eql (.t 147) (.n 0)) .no, .i 149 (.pick (.t 146) (.t 148) (.c (.one (.st (.bool false))))), .m 150 149, .mk (some 151) (some (150, true)) (.mov (.t 19)) .no, .mk (some 152) (some (150, true)) (.bin .eql (.t 151) (.n 0)) .no, .i 153 (.pick (.t 150) (.t 152) (.c (.one (.st (.bool false))))), .m 154 153, .mk (some 155) (some (154, true)) (.mov (.t 21)) .no, .mk (some 156) (some (154, true)) (.bin .eql (.t 155) (.n 0)) .no, .i 157 (.pick (.t 154) (.t 156) (.c (.one (.st (.bool false))))), .m 158 157, .mk (some 159) (some (158, true)) (.mov (.t 23)) .no, .mk (some 160) (some (158, true)) (.bin .eql (.t 159) (.n 0)) .no, .i 161 (.pick (.t 158) (.t 160) (.c (.one (.st (.bool false))))), .m 162 161, .mk (some 163) (some (162, true)) (.mov (.t 14)) .no, .i 164 (.pick (.t 162) (.t 163) (.c (.one (.st (.bool false))))), .m 165 164, .mk (some 166) (some (165, true)) (.mov (.t 16)) .no, .i 167 (.pick (.t 165) (.t 166) (.c (.one (.st (.bool false))))), .m 168 167, .mk (some 169) (some (168, true)) (.mov (.t 18)) .no, .mk (some 170) (some (168, true)) (.mov (.t 20)) .no, .mk (some 171) (some (168, true)) (.bin .eql (.t 169) (.t 170)) .no, .i 172 (.pick (.t 168) (.t 171) (.c (.one (.st (.bool false))))), .m 173 172, .mk (some 174) (some (173, true)) (.mov (.t 22)) .no, .mk (some 175) (some (173, true)) (.bin .eql (.t 174) (.n 1)) .no, .i 176 (.pick (.t 173) (.t 175) (.c (.one (.st (.bool false))))), .m 6 176]) .ret)))))))))))))
theorem Bn : OkF Try.prog 5 177 [] BE [.t 6] := .of Try.func5 rfl rfl (by kernel_rfl) rfl

def Eo : IR :=
 (.seq (.ops [.i 1 (.box 25 (.t 0)), .i 2 (.mov (.n 0)), .i 3 (.mov (.n 0))]) (.seq (.ops [.L 28 3 1, .i 29 (.call 34 [.t 28]), .m 4 29]) (.seq (.seq (.ops [.m 30 4, .i 31 (.bin .eql (.t 30) (.n 0))]) (.cond (.t 31) (.ops [.L 32 3 1, .i 33 (.buildSlice false 25 3 [.t 32]), .i 34 (.call 30 [.t 33]), .m 4 34]) .skip)) (.seq (.seq (.ops [.m 35 4, .i 36 (.bin .neq (.t 35) (.n 0))]) (.cond (.t 36) (.seq (.ops [.m 37 4, .i 2 (.mov (.n 0)), .m 3 37]) .ret) .skip)) (.seq (.ops [.L 38 3 1, .i 39 (.buildSlice false 25 3 [.t 38]), .i 40 (.call 32 [.t 39]), .m 5 40]) (.seq (.ops [.L 41 3 1, .i 42 (.build [.st (.int .i64 0), .full [], .full []] []), .m 43 5, .i 44 (.call 31 [.t 41, .t 42, .t 43]), .i 6 (.alloc 61 [.full []]), .s 1 6 44]) (.seq (.ops [.i 45 (.makeMap (some (Go.Proofs.Ytkegjgodjigjfaa.KK.int .u64))), .i 7 (.alloc 70 [.st (.lit (.map none))]), .s 1 7 45]) (.seq (.seq (.ops [.l 46 6, .i 47 (.len false (.t 46)), .i 48 (.mov (.n 0))]) (.block 0 (.loop (.seq (.ops [.i 49 (.bin .lss (.t 48) (.t 47))]) (.seq (.cond (.t 49) .skip (.exit 0)) (.seq (.block 1 (.seq (.ops [.m 50 48, .i 51 (.indexAddr 2 (.t 46) (.t 48)), .L 52 2 51, .i 9 (.alloc 67 [.st (.int .u64 0), .st (.int .u64 0)]), .m 8 50, .s 2 9 52]) (.ops [.l 53 7, .f 54 0 9, .l 55 54, .m 56 8, .mk none none (.mapSet (some (Go.Proofs.Ytkegjgodjigjfaa.KK.int .u64)) (.t 53) (.t 55) (.t 56)) .no]))) (.ops [.i 57 (.bin .add (.t 48) (.n 1)), .m 48 57]))))))) (.seq (.ops [.l 58 6, .i 59 (.len false (.t 58)), .i 60 (.makeSlice 3 1 8 [.int .i64 0] (.t 59) (.t 59)), .i 10 (.alloc 23 [.full []]), .s 1 10 60]) (.seq (.seq (.ops [.l 61 6, .i 62 (.len false (.t 61)), .i 63 (.mov (.n 0))]) (.block 2 (.loop (.seq (.ops [.i 64 (.bin .lss (.t 63) (.t 62))]) (.seq (.cond (.t 64) .skip (.exit 2)) (.seq (.block 3 (.seq (.ops [.m 65 63, .i 66 (.indexAddr 2 (.t 61) (.t 63)), .L 67 2 66, .i 12 (.alloc 67 [.st (.int .u64 0), .st (.int .u64 0)]), .m 11 65, .s 2 12 67]) (.seq (.ops [.f 68 0 12, .l 69 68, .L 70 3 1, .i 71 (.call 33 [.t 70]), .i 72 (.bits .and (.t 69) (.t 71)), .i 73 (.bin .neq (.t 72) (.c (.one (.st (.int .u64 0)))))]) (.cond (.t 73) (.ops [.l 74 10, .m 75 11, .i 76 (.indexAddr 1 (.t 74) (.t 75)), .mk none none (.store 1 (.t 76) (.n 1)) .no]) .skip)))) (.ops [.i 77 (.bin .add (.t 63) (.n 1)), .m 63 77]))))))) (.seq (.ops [.i 13 (.mov (.n 0))]) (.block 4 (.loop (.block 5 (.seq (.ops [.i 78 (.makeMap none), .m 14 78]) (.seq (.ops [.l 79 6, .i 80 (.len false (.t 79)), .i 81 (.makeSlice 3 1 8 [.int .i64 0] (.t 80) (.t 80)), .m 15 81]) (.seq (.seq (.ops [.l 82 6, .i 83 (.len false (.t 82)), .i 84 (.mov (.n 0))]) (.block 6 (.loop (.seq (.ops [.i 85 (.bin .lss (.t 84) (.t 83))]) (.seq (.cond (.t 85) .skip (.exit 6)) (.seq (.block 7 (.seq (.ops [.m 86 84, .i 16 (.alloc 3 [.st (.int .i64 0)]), .s 1 16 86]) (.seq (.ops [.l 87 10, .l 88 16, .i 89 (.indexAddr 1 (.t 87) (.t 88)), .l 90 89, .i 91 (.bin .add (.t 90) (.n 1)), .i 92 (.conv .i32 (.t 91)), .i 93 (.strOf true (.t 92)), .i 17 (.alloc 9 [.st (.str (ByteArray.mk (#[])))]), .s 1 17 93]) (.seq (.seq (.ops [.m 94 5, .i 95 (.len false (.t 94)), .i 96 (.mov (.n 0))]) (.block 8 (.loop (.seq (.ops [.i 97 (.bin .lss (.t 96) (.t 95))]) (.seq (.cond (.t 97) .skip (.exit 8)) (.seq (.block 9 (.seq (.ops [.i 98 (.indexAddr 2 (.t 94) (.t 96)), .L 99 2 98, .i 19 (.alloc 72 [.st (.str (ByteArray.mk (#[]))), .st (.int .i64 0)]), .s 2 19 99]) (.seq (.ops [.l 100 6, .i 101 (.len false (.t 100)), .f 102 1 19, .l 103 102, .i 104 (.call 35 [.t 101, .t 103])]) (.block 10 (.rangeF (.t 104) [105] (.ops [.m 20 105]) (.block 11 (.seq (.ops [.m 106 20, .i 107 (.len false (.t 106)), .i 108 (.mov (.n 0))]) (.block 12 (.loop (.seq (.ops [.i 109 (.bin .lss (.t 108) (.t 107))]) (.seq (.cond (.t 109) .skip (.exit 12)) (.seq (.block 13 (.seq (.ops [.m 110 108, .m 21 110]) (.seq (.ops [.m 111 20, .m 112 21, .i 113 (.indexAddr 1 (.t 111) (.t 112)), .l 114 113, .m 22 114]) (.seq (.ops [.m 115 20, .m 116 21, .l 117 16, .i 118 (.indexAddr 1 (.t 115) (.t 116)), .s 1 118 117]) (.seq (.ops [.i 23 (.mov (.c (.one (.full []))))]) (.seq (.seq (.ops [.m 119 20, .i 120 (.len false (.t 119)), .i 121 (.mov (.n 0))]) (.block 14 (.loop (.seq (.ops [.i 122 (.bin .lss (.t 121) (.t 120))]) (.seq (.cond (.t 122) .skip (.exit 14)) (.seq (.block 15 (.seq (.ops [.i 123 (.indexAddr 1 (.t 119) (.t 121)), .l 124 123, .m 25 124]) (.ops [.m 125 23, .l 126 6, .m 127 25, .i 128 (.indexAddr 2 (.t 126) (.t 127)), .f 129 0 128, .l 130 129, .i 131 (.buildFlat [.t 130]), .i 132 (.append false 65 1 8 (.t 125) (.t 131)), .m 23 132]))) (.ops [.i 133 (.bin .add (.t 121) (.n 1)), .m 121 133]))))))) (.seq (.ops [.l 134 17, .l 135 10, .l 136 7, .L 137 3 1, .f 138 0 19, .l 139 138, .m 140 23, .i 141 (.call 36 [.t 137, .t 139, .t 140]), .i 142 (.lookup (some (Go.Proofs.Ytkegjgodjigjfaa.KK.int .u64)) false (.one (.st (.int .i64 0))) (.t 136) (.t 141)), .i 143 (.indexAddr 1 (.t 135) (.t 142)), .l 144 143, .i 145 (.bin .add (.t 144) (.n 1)), .i 146 (.conv .i32 (.t 145)), .i 147 (.strOf true (.t 146)), .i 148 (.bin .add (.t 134) (.t 147)), .s 1 17 148]) (.ops [.m 149 20, .m 150 21, .m 151 22, .i 152 (.indexAddr 1 (.t 149) (.t 150)), .s 1 152 151])))))))) (.ops [.i 153 (.bin .add (.t 108) (.n 1)), .m 108 153]))))))))))))) (.ops [.i 154 (.bin .add (.t 96) (.n 1)), .m 96 154]))))))) (.seq (.seq (.ops [.m 156 14, .l 157 17, .i 158 (.lookup none true (.one (.st (.int .i64 0))) (.t 156) (.t 157)), .m 155 158, .i 159 (.extract 0 (.t 155)), .i 160 (.extract 1 (.t 155)), .m 26 159, .m 27 160]) (.seq (.ops [.m 161 27, .i 162 (.un .not (.t 161))]) (.cond (.t 162) (.ops [.m 163 14, .l 164 17, .m 165 14, .i 166 (.lenM (.t 165)), .mk none none (.mapSet none (.t 163) (.t 164) (.t 166)) .no]) .skip))) (.ops [.m 167 15, .l 168 16, .m 169 14, .l 170 17, .i 171 (.lookup none false (.one (.st (.int .i64 0))) (.t 169) (.t 170)), .i 172 (.indexAddr 1 (.t 167) (.t 168)), .s 1 172 171])))))) (.ops [.i 173 (.bin .add (.t 84) (.n 1)), .m 84 173]))))))) (.seq (.seq (.ops [.m 174 14, .i 175 (.lenM (.t 174)), .m 176 13, .i 177 (.bin .eql (.t 175) (.t 176))]) (.cond (.t 177) (.seq (.ops [.m 178 13, .m 2 178, .i 3 (.mov (.n 0))]) .ret) .skip)) (.ops [.m 179 14, .i 180 (.lenM (.t 179)), .m 181 15, .m 13 180, .s 1 10 181])))))))))))))))))))
theorem Hp : OkF Try.prog 13 182 [] Eo [.t 2, .t 3] := .of Try.func13 rfl rfl (by kernel_rfl) rfl

def E0 : IR :=
 (.seq (.ops [.i 3 (.box 25 (.t 0)), .i 4 (.box 25 (.t 1)), .i 6 (.mov (.c (.one (.full []))))]) (.seq (.ops [.i 7 (.alloc 61 [.full []])]) (.seq (.ops [.i 18 (.makeMap (some (Go.Proofs.Ytkegjgodjigjfaa.KK.two (some .u64) (some .u64)))), .i 8 (.alloc 97 [.st (.lit (.map none))]), .s 1 8 18]) (.seq (.seq (.ops [.i 9 (.alloc 4 [.st (.bool false)]), .mk none none (.store 1 (.t 9) (.c (.one (.st (.bool true))))) .no]) (.block 0 (.loop (.seq (.seq (.ops [.l 19 9]) (.cond (.t 19) .skip (.exit 0))) (.seq (.block 1 (.seq (.ops [.mk none none (.store 1 (.t 9) (.c (.one (.st (.bool false))))) .no]) (.seq (.ops [.m 20 2, .i 21 (.len false (.t 20)), .i 22 (.mov (.n 0))]) (.block 2 (.loop (.seq (.ops [.i 23 (.bin .lss (.t 22) (.t 21))]) (.seq (.cond (.t 23) .skip (.exit 2)) (.seq (.block 3 (.seq (.ops [.i 24 (.indexAddr 2 (.t 20) (.t 22)), .L 25 2 24, .i 11 (.alloc 72 [.st (.str (ByteArray.mk (#[]))), .st (.int .i64 0)]), .s 2 11 25]) (.seq (.ops [.l 26 7, .i 27 (.len false (.t 26)), .f 28 1 11, .l 29 28, .i 30 (.call 35 [.t 27, .t 29])]) (.block 4 (.rangeF (.t 30) [31] (.ops [.m 12 31]) (.block 5 (.seq (.ops [.i 13 (.mov (.c (.one (.full [])))), .i 14 (.mov (.c (.one (.full []))))]) (.seq (.seq (.ops [.m 32 12, .i 33 (.len false (.t 32)), .i 34 (.mov (.n 0))]) (.block 6 (.loop (.seq (.ops [.i 35 (.bin .lss (.t 34) (.t 33))]) (.seq (.cond (.t 35) .skip (.exit 6)) (.seq (.block 7 (.seq (.ops [.i 36 (.indexAddr 1 (.t 32) (.t 34)), .l 37 36, .m 16 37]) (.ops [.m 38 13, .l 39 7, .m 40 16, .i 41 (.indexAddr 2 (.t 39) (.t 40)), .f 42 0 41, .l 43 42, .i 44 (.buildFlat [.t 43]), .mk (some 45) none (.append false 65 1 8 (.t 38) (.t 44)) (.keeps [1007, 1500]), .m 46 14, .mk (some 47) none (.load false 1 (.t 7)) (.onb 1007), .m 48 16, .mk (some 49) none (.indexAddr 2 (.t 47) (.t 48)) (.onb 1500), .i 50 (.fieldL 1 (.t 49)), .i 51 (.loadL false 1 (.t 50)), .i 52 (.buildFlat [.t 51]), .i 53 (.append false 65 1 8 (.t 46) (.t 52)), .m 13 45, .m 14 53]))) (.ops [.i 54 (.bin .add (.t 34) (.n 1)), .m 34 54]))))))) (.seq (.ops [.L 55 3 3, .f 56 0 11, .l 57 56, .m 58 13, .i 59 (.call 36 [.t 55, .t 57, .t 58]), .L 60 3 4, .f 61 0 11, .l 62 61, .m 63 14, .i 64 (.call 36 [.t 60, .t 62, .t 63]), .i 65 (.build [.st (.int .u64 0), .st (.int .u64 0)] [(0, 1, .t 59), (1, 1, .t 64)]), .i 17 (.alloc 67 [.st (.int .u64 0), .st (.int .u64 0)]), .s 2 17 65]) (.seq (.ops [.l 66 8, .L 67 2 17, .i 68 (.lookup (some (Go.Proofs.Ytkegjgodjigjfaa.KK.two (some .u64) (some .u64))) false (.one (.st (.bool false))) (.t 66) (.t 67)), .i 69 (.un .not (.t 68))]) (.cond (.t 69) (.seq (.ops [.l 70 8, .L 71 2 17, .mk none none (.mapSet (some (Go.Proofs.Ytkegjgodjigjfaa.KK.two (some .u64) (some .u64))) (.t 70) (.t 71) (.c (.one (.st (.bool true))))) .no]) (.seq (.ops [.l 72 7, .L 73 2 17, .i 74 (.buildSlice false 67 2 [.t 73]), .i 75 (.append false 67 2 16 (.t 72) (.t 74)), .s 1 7 75]) (.ops [.mk none none (.store 1 (.t 9) (.c (.one (.st (.bool true))))) .no]))) .skip))))))))))) (.ops [.i 76 (.bin .add (.t 22) (.n 1)), .m 22 76]))))))))) (.seq (.ops [.l 77 9]) (.ops [.i 9 (.alloc 4 [.st (.bool false)]), .s 1 9 77]))))))) (.seq (.ops [.l 78 7, .m 6 78]) .ret)))))
theorem Hw : OkF Try.prog 31 79 [10071007, 10471500, 60000050, 60000051] E0 [.t 6] := .of Try.func31 rfl rfl (by kernel_rfl) rfl
def Ez : IR :=
 (.seq (.ops [.i 2 (.mov (.n 0))]) (.seq (.seq (.ops [.m 7 0, .i 8 (.len false (.t 7)), .i 9 (.mov (.n 0))]) (.block 0 (.loop (.seq (.ops [.i 10 (.bin .lss (.t 9) (.t 8))]) (.seq (.cond (.t 10) .skip (.exit 0)) (.seq (.block 1 (.seq (.ops [.i 11 (.indexAddr 3 (.t 7) (.t 9)), .L 12 3 11, .i 4 (.alloc 25 [.st (.int .i64 0), .full [], .full []]), .s 3 4 12]) (.seq (.seq (.ops [.f 13 0 4, .l 14 13, .i 15 (.bin .gtr (.t 14) (.n 3))]) (.cond (.t 15) (.seq (.ops [.i 2 (.mov (.n 3))]) .ret) .skip)) (.seq (.ops [.f 16 1 4, .l 17 16, .i 18 (.len false (.t 17)), .i 19 (.mov (.n 0))]) (.block 2 (.loop (.seq (.ops [.i 20 (.bin .lss (.t 19) (.t 18))]) (.seq (.cond (.t 20) .skip (.exit 2)) (.seq (.block 3 (.seq (.ops [.i 21 (.indexAddr 3 (.t 17) (.t 19)), .L 22 3 21, .i 6 (.alloc 46 [.st (.str (ByteArray.mk (#[]))), .full [], .st (.int .i64 0)]), .s 3 6 22]) (.seq (.ops [.f 23 1 6, .l 24 23, .i 25 (.len false (.t 24)), .i 26 (.bin .gtr (.t 25) (.n 2))]) (.cond (.t 26) (.seq (.ops [.i 2 (.mov (.n 3))]) .ret) .skip)))) (.ops [.i 27 (.bin .add (.t 19) (.n 1)), .m 19 27])))))))))) (.ops [.i 28 (.bin .add (.t 9) (.n 1)), .m 9 28]))))))) (.seq (.ops [.i 2 (.mov (.n 0))]) .ret)))
theorem Hv : OkF Try.prog 30 29 [] Ez [.t 2] := .of Try.func30 rfl rfl (by kernel_rfl) rfl
def CH : IR :=
 (.seq (.ops [.i 2 (.box 25 (.t 0)), .i 3 (.box 25 (.t 1)), .i 4 (.mov (.c (.one (.st (.bool false))))), .i 5 (.mov (.n 0))]) (.seq (.seq (.ops [.L 10 3 2, .L 11 3 3, .i 12 (.call 29 [.t 10, .t 11]), .m 6 12]) (.seq (.ops [.m 13 6, .i 14 (.bin .neq (.t 13) (.n 0))]) (.cond (.t 14) (.seq (.ops [.m 15 6, .i 4 (.mov (.c (.one (.st (.bool false))))), .m 5 15]) .ret) .skip))) (.seq (.seq (.ops [.L 16 3 2, .L 17 3 3, .i 18 (.buildSlice false 25 3 [.t 16, .t 17]), .i 19 (.call 30 [.t 18]), .m 7 19]) (.seq (.ops [.m 20 7, .i 21 (.bin .neq (.t 20) (.n 0))]) (.cond (.t 21) (.seq (.ops [.m 22 7, .i 4 (.mov (.c (.one (.st (.bool false))))), .m 5 22]) .ret) .skip))) (.seq (.seq (.ops [.L 23 3 2, .L 24 3 3, .L 25 3 2, .L 26 3 3, .i 27 (.buildSlice false 25 3 [.t 25, .t 26]), .i 28 (.call 32 [.t 27]), .i 29 (.call 31 [.t 23, .t 24, .t 28]), .i 30 (.len false (.t 29)), .i 31 (.mov (.n 0))]) (.block 0 (.loop (.seq (.ops [.i 32 (.bin .lss (.t 31) (.t 30))]) (.seq (.cond (.t 32) .skip (.exit 0)) (.seq (.block 1 (.seq (.ops [.i 33 (.indexAddr 2 (.t 29) (.t 31)), .L 34 2 33, .i 9 (.alloc 67 [.st (.int .u64 0), .st (.int .u64 0)]), .s 2 9 34]) (.seq (.ops [.f 35 0 9, .l 36 35, .L 37 3 2, .i 38 (.call 33 [.t 37]), .i 39 (.bits .and (.t 36) (.t 38)), .i 40 (.bin .neq (.t 39) (.c (.one (.st (.int .u64 0))))), .m 41 40, .mk (some 42) (some (41, true)) (.fieldAddr 1 (.t 9)) .no, .mk (some 43) (some (41, true)) (.load false 1 (.t 42)) .no, .mk (some 44) (some (41, true)) (.load true 3 (.t 3)) .no, .mk (some 45) (some (41, true)) (.call 33 [.t 44]) .no, .mk (some 46) (some (41, true)) (.bits .and (.t 43) (.t 45)) .no, .mk (some 47) (some (41, true)) (.bin .eql (.t 46) (.c (.one (.st (.int .u64 0))))) .no, .i 48 (.pick (.t 41) (.t 47) (.c (.one (.st (.bool false)))))]) (.cond (.t 48) (.seq (.ops [.i 4 (.mov (.c (.one (.st (.bool false))))), .i 5 (.mov (.n 0))]) .ret) .skip)))) (.ops [.i 49 (.bin .add (.t 31) (.n 1)), .m 31 49]))))))) (.seq (.ops [.i 4 (.mov (.c (.one (.st (.bool true))))), .i 5 (.mov (.n 0))]) .ret)))))
theorem C1 : OkF Try.prog 12 50 [] CH [.t 4, .t 5] := .of Try.func12 rfl rfl (by kernel_rfl) rfl

section
variable {P : Program} {C : Ctx} {a : Act} {w : World} {σ : Sto} {ι : Ac} {s : AS} {Q : Exit → Act → World → Prop} {o : Oper}
end
section
variable {P : Program} {C : Ctx} {mu : List Nat} {Q : AX → AS → Prop} {s : AS}
end

def QU (P : Program) (f : FuncId) (caps : List AV) (Need : AA → Prop) {α : Type} (encs : α → List AV) (all : List α) : Prop :=
 ∀ (y : Nat) (Inv : List α → AA → Prop) (Jx : AA → Prop) (T : AA), 1000 ≤ y → (∀ pre T, Inv pre T → Need T) →
  (∀ pre v, (pre ++ [v]) <+: all → ∀ T, Inv pre T → Co P (.one (.yld y)) (encs v) T fun r T' => (r = .one (.st (.bool true)) ∧ Inv (pre ++ [v]) T') ∨ (r = .one (.st (.bool false)) ∧ Jx T')) →
  Inv [] T → EV P f (.one (.yld y) :: caps) T fun _ T' => Inv all T' ∨ Jx T'
def Gc (env : Nat → AV) : List Nat → List AV → Nat → AV
 | p :: ps, v :: vs => Gc (AF env p v) ps vs
 | _, _ => env
section
variable {σ : Sto} {S : AA} {ι : Ac}
theorem H5 {n : Nat} : ∀ {ps : List Nat} {vs : List Value} {xs : List AV} {tmps : Array Value} {env : Nat → AV}, AN (AK σ S ι) vs xs → n ≤ tmps.size → (∀ i, i < n → AK σ S ι (tmps.getD i undef) (env i)) →
  n ≤ ((ps.zip vs).foldl (fun t (p, v) => t.setIfInBounds p v) tmps).size ∧ ∀ i, i < n → AK σ S ι (((ps.zip vs).foldl (fun t (p, v) => t.setIfInBounds p v) tmps).getD i undef) (Gc env ps xs i)
 | [], vs, xs, tmps, env, h, hs, he => ⟨hs, he⟩
 | p :: ps, [], [], tmps, env, h, hs, he => ⟨hs, he⟩
 | p :: ps, v :: vs, x :: xs, tmps, env, h, hs, he => by
  cases h with
  | cons h1 h2 =>
   refine H5 (ps := ps) h2 (by simpa using hs) fun i hi => ?_
   unfold AF
   by_cases e : i = p
   ·subst e
    rw [if_pos rfl, Array.getD_eq_getD_getElem?, Array.getElem?_setIfInBounds_self_of_lt (by omega)]
    exact h1
   ·rw [if_neg e, Array.getD_eq_getD_getElem?, Array.getElem?_setIfInBounds_ne (fun h => e h.symm), ← Array.getD_eq_getD_getElem?]
    exact he i hi
end
section
variable {P : Program} {C : Ctx} {mu : List Nat} {Q : AX → AS → Prop} {s : AS} {x y : IR} {σ : Sto} {ι : Ac} {a : Act} {w : World}
theorem AJ.upped (R : AJ C σ ι s a w) : ∃ ι1 : Ac, (∀ i, ι1 (up1 i) = ι i) ∧ DO σ (upS s.S) ι1 w ∧ (∀ v c, AK σ s.S ι v c → AK σ (upS s.S) ι1 v (c.ren up1)) ∧
  ∀ {Post : AV → AA → Prop} {e : Ending} {w' : World}, JT σ (upS s.S) ι1 w Post e w' → ∃ v r S' σ' ι2, e = .returned v ∧ Post r S' ∧ Aa S' ∧ Upd s.S ι (dnS S') ι2 ∧ AJ C σ' ι2 ⟨s.env, dnS S'⟩ a w' := by
 have hup : ∀ i, dn1 (up1 i) = i := GW
 have hS : ∀ i b, s.S i = some b → upS s.S (up1 i) = some (b.ren up1) := fun i b hb => BV hb
 obtain ⟨ι1, hι1⟩ : ∃ ι1 : Ac, ∀ i, ι1 i = ι (dn1 i) := ⟨fun i => ι (dn1 i), fun _ => rfl⟩
 have hι : ∀ i b, s.S i = some b → ι1 (up1 i) = ι i := fun i b _ => by rw [hι1, hup]
 have hown : DO σ (upS s.S) ι1 w := by
  refine ⟨fun id b hb => ?_, fun id id' b b' g h1 h2 g1 g2 => ?_⟩
  ·obtain ⟨hle, b', h1, rfl⟩ := C8 hb
   have := BH.ren (S2 := upS s.S) (ι2 := ι1) (ρ := up1) hS hι (R.blk _ _ h1)
   rw [hι1]
   exact this
  ·obtain ⟨l1, c1, k1, _⟩ := C8 h1
   obtain ⟨l2, c2, k2, _⟩ := C8 h2
   rw [hι1] at g1 g2
   have := R.inj _ _ _ _ g k1 k2 g1 g2
   rw [← HX l1, ← HX l2, this]
 refine ⟨ι1, fun i => by rw [hι1, hup], hown, fun v c hv => AK.ren (S2 := upS s.S) (ι2 := ι1) (ρ := up1) hS hι hv, fun {Post e w'} he => ?_⟩
 obtain ⟨v, r, S', σ', ι', rfl, hP, hclean, hupd, hown', hv, hf', hkeep, hold, hos, hsz, hsame, hbase⟩ := he
 have hSd : ∀ i b, S' i = some b → dnS S' (dn1 i) = some (b.ren dn1) := fun i b hb => FX (hclean i b hb).1 hb
 obtain ⟨ι2, hι2⟩ : ∃ ι2 : Ac, ∀ i, ι2 i = ι' (up1 i) := ⟨fun i => ι' (up1 i), fun _ => rfl⟩
 have hιd : ∀ i b, S' i = some b → ι2 (dn1 i) = ι' i := fun i b hb => by
  rw [hι2, HX (hclean i b hb).1]
 have hu : Upd s.S ι (dnS S') ι2 := fun id b hb => by
  obtain ⟨b', h1, h2, h3⟩ := hupd _ _ (hS id b hb)
  have h4 := hSd _ _ h1
  rw [hup] at h4
  refine ⟨_, h4, by rw [BB] at h2 ⊢; exact h2, fun hl => ?_⟩
  rw [BB] at hl
  obtain ⟨q1, q2⟩ := h3 (by rw [BB]; exact hl)
  refine ⟨by rw [Gn] at q1 ⊢; exact q1, ?_⟩
  rw [hι2, q2, hι1, hup]
 have hnot : ∀ g, g < C.N → ¬ C.G g → Bf (upS s.S) ι1 g := fun g h1 h2 id b hb hg => by
  obtain ⟨_, b', k1, _⟩ := C8 hb
  rw [hι1] at hg
  rcases R.base _ _ g k1 hg with h | h
  ·omega
  ·exact h2 h
 refine ⟨v, r, S', σ', ι2, rfl, hP, hclean, hu, ?_⟩
 refine ⟨R.size, fun i hi => (R.env i hi).mono hkeep hu, R.nod.mono (fun D h => (hsame D (Array.getElem?_eq_some_iff.1 h).1 (Ds hown.1 h)).trans h), hf', fun id b hb => ?_, fun id id' b b' g h1 h2 g1 g2 => ?_, fun id b g hb hg => ?_, fun p x hx => hkeep _ _ (R.ext p x hx), fun p h1 h2 => ?_, ⟨hos.1.trans R.os.1, hos.2.1.trans R.os.2.1, hos.2.2.trans R.os.2.2⟩, ⟨Nat.le_trans R.grown.1 hsz, Nat.le_trans R.grown.2 hsz⟩, fun g h1 h2 => ?_, R.upd.trans hu⟩
 ·obtain ⟨b', h1, rfl⟩ := C_ hb
  have := BH.ren (S2 := dnS S') (ι2 := ι2) (ρ := dn1) hSd hιd (hown'.1 _ _ h1)
  rw [hι2]
  exact this
 ·obtain ⟨c1, k1, _⟩ := C_ h1
  obtain ⟨c2, k2, _⟩ := C_ h2
  rw [hι2] at g1 g2
  have := congrArg dn1 (hown'.2 _ _ _ _ g k1 k2 g1 g2)
  rw [hup, hup] at this
  exact this
 ·obtain ⟨b', h1, _⟩ := C_ hb
  rw [hι2] at hg
  rcases hbase _ _ g h1 hg with h2 | h2
  ·exact .inl (by have := R.grown.1; omega)
  ·by_cases hN : g < C.N
   ·by_cases hG : C.G g
    ·exact .inr hG
    ·exact absurd (hnot g hN hG) h2
   ·exact .inl (by omega)
 ·exact (hold p (by have := R.grown.1; omega) (hnot _ h1 h2)).trans (R.old p h1 h2)
 ·exact (hsame g (by have := R.grown.1; omega) (hnot g h1 h2)).trans (R.same g h1 h2)
theorem AJ.setLoop (R : AJ C σ ι s a w) {id l : Nat} {env : List AV} {r : Loop} (r' : Loop) (hS : s.S id = some (.loop env r)) (hl : (ι id).g = some l) (hr : r'.tmps = r.tmps) : w.heap[l]? = some (.loop r) ∧ ∃ ι', AJ C σ ι' (s.set id (.loop env r')) a (w.putObj l (.loop r')) ∧ Upd s.S ι (s.set id (.loop env r')).S ι' := by
 have hb := R.blk id _ hS
 cases hb with
 | loop h1 h2 h3 h4 h5 =>
  rw [hl] at h1
  cases h1
  exact ⟨h2, R.setBlk (o' := .loop r') hS hl h2 h5 rfl rfl fun S' ι' hu => .loop hl (CB h2).1 (by rw [hr]; exact h3) (fun j a ha => by rw [hr]; exact (h4 j a ha).mono (fun _ _ h => h) hu) h5⟩
def JL (C : Ctx) (y : Nat) (b : AG) (N : AA → Prop) (Jx : AX → AA → Prop) (e : AX) (s : AS) : Prop := ∃ s2 U, AZ C s s2 ∧ s2.S = AF U y (some b) ∧ Aa s2.S ∧ U y = none ∧ match e with
 | .normal => N U
 | .ret => Jx .ret U
 | .exit i => Jx (.exit i) U
 | .pan _ => False
theorem Dl {C : Ctx} {σ0 : Sto} {T : AA} {ι0 : Ac} {w0 : World} (hC : C.N = w0.heap.size) (hw : C.w0 = w0) (hσ : C.σ0 = σ0) (hG : ∀ g, C.G g ↔ ¬ Bf T ι0 g) (hS0 : C.S0 = T) (hι0 : C.ι0 = ι0) (R : AJ C σ ι s a w) (hc : Aa s.S) {Post : AV → AA → Prop} {b : Bool} (hP : Post (.one (.st (.bool b))) s.S) : JT σ0 T ι0 w0 Post (.returned (.bool b)) w := by
 have hupd := R.upd
 rw [hS0, hι0] at hupd
 subst hσ hw
 exact ⟨.bool b, _, s.S, σ, ι, rfl, hP, hc, hupd, ⟨R.blk, R.inj⟩, .one (.st .bool), R.fit, R.ext, fun p h1 h2 => R.old p (by rw [hC]; exact h1) (fun h => (hG _).1 h h2), R.os, R.grown.2, fun g h1 h2 => R.same g (by rw [hC]; exact h1) (fun h => (hG _).1 h h2), fun id b g h1 h2 => (R.base id b g h1 h2).imp (fun h => by rw [← hC]; exact h) fun h => (hG _).1 h⟩
theorem F6 {S : AA} {i : Nat} {b c : Option AG} : AF (AF S i b) i c = AF S i c := by
 funext j
 unfold AF
 split <;> rfl
inductive Nw : Code → AX → Prop
 | ret : Nw .ret .ret
 | exit (i : Nat) : Nw (.exit i) (.exit i)
theorem J4 {fn : FuncId} {ps : Array Tmp} {ca cb : Code} {D : Nat} {n : Nat} {env : List AV} {tmps : Array Value} (hx : At P n mu ca = some x) (hy : At P n mu cb = some y) (hn : env.length = n) {yb : Nat} (hyb : 1000 ≤ yb) {rec : LoopState → Option Code → Loop} (hrec : rec = fun st pe => { state := st, pending := pe, fn, tmps, params := ps, assign := ca, body := cb, defers := D }) {vs : List AV} (hps : vs.length = ps.size)
  {U : AA} (hU : U yb = none) {N : AA → Prop} {Jx : AX → AA → Prop}
  (h : Aa (AF U yb (some (.loop env (rec .ready none)))) → ∀ C' : Ctx, C'.n = n → IWP P C' mu x (AX.then (fun s1 => s1.S yb = some (.loop env (rec .ready none)) ∧ IWP P C' mu y (JL C' yb (.loop env (rec .busy none)) N Jx) (s1.set yb (.loop env (rec .busy none)))) fun _ _ => False) ⟨Gc (fun i => (env[i]?).getD .any) ps.toList vs, AF U yb (some (.loop env (rec .ready none)))⟩) :
  Co P (.one (.yld yb)) vs (AF U yb (some (.loop env (rec .ready none)))) fun r T' => (r = .one (.st (.bool true)) ∧ ∃ U', T' = AF U' yb (some (.loop env (rec .ready none))) ∧ U' yb = none ∧ N U') ∨
   (r = .one (.st (.bool false)) ∧ ∃ U' c e, T' = AF U' yb (some (.loop env (rec .done (some c)))) ∧ U' yb = none ∧ Nw c e ∧ Jx e U') := by
 intro hclean σ w vy xs ι hglob hfit hown hvy hxs
 obtain ⟨T, hT⟩ : ∃ T, AF U yb (some (.loop env (rec .ready none))) = T := ⟨_, rfl⟩
 have hTy : T yb = some (.loop env (rec .ready none)) := by rw [← hT]; exact AB _ _ _
 rw [hT] at hclean hown hvy hxs h ⊢
 have hhigh := (hclean _ _ hTy).2
 have hb := hown.1 _ _ hTy
 obtain ⟨l, hl, rfl⟩ : ∃ l, (ι yb).g = some l ∧ vy = .func (.yield l) #[] #[] := by
  cases hvy with
  | one hv =>
   cases hv with
   | yld k1 k2 k3 k4 =>
    rw [hTy] at k1
    cases k1
    exact k4 rfl
 have hlen := hxs.len
 cases hb with
 | loop k1 k2 k3 k4 k5 =>
 rw [hl] at k1
 cases k1
 have htm : (rec .ready none).tmps = tmps := by rw [hrec]
 refine ⟨l, rfl, fun ro => ⟨fn, _, ca, cb, by
  have := run_yield (P := P) (args := xs.toArray) k2 (by rw [hrec]; simp; omega)
  rw [hrec] at this
  exact this, ?_⟩⟩
 let C' : Ctx := ⟨n, w.heap.size, fun g => ¬ Bf T ι g, σ, w, T, ι, hclean, hglob, [], some l, false⟩
 have hset := H5 (σ := σ) (S := T) (ι := ι) (n := n) (ps := ps.toList) (env := fun i => (env[i]?).getD .any) (tmps := tmps) hxs (by rw [htm] at k3; omega) fun i hi => by
  have hi' : i < env.length := by omega
  have := k4 i _ (List.getElem?_eq_getElem hi')
  rw [htm] at this
  simpa [hi'] using this
 have hfold : (ps.zip xs.toArray).foldl (fun t (p, v) => t.setIfInBounds p v) tmps = (ps.toList.zip xs).foldl (fun t (p, v) => t.setIfInBounds p v) tmps := by
  rw [← Array.foldl_toList, Array.toList_zip]
 have R0 : AJ C' σ ι ⟨Gc (fun i => (env[i]?).getD .any) ps.toList vs, T⟩ { tmps := (ps.zip xs.toArray).foldl (fun t (p, v) => t.setIfInBounds p v) tmps, defers := [] } w := by
  refine ⟨?_, fun i hi => ?_, EU, hfit, hown.1, hown.2, fun id b g h hg => .inr (fun hno => hno id b h hg), fun _ _ h => h, fun _ _ _ => rfl, ⟨rfl, rfl, rfl⟩, ⟨Nat.le_refl _, Nat.le_refl _⟩, fun _ _ _ => rfl, Upd.refl _ _⟩
  ·dsimp only
   rw [hfold]
   exact hset.1
  ·dsimp only
   rw [hfold]
   exact hset.2 i hi
 refine roundIn_of_wpIn (F := fen ro) (n := 0) trivial (wpIn_mono (h hclean C' rfl ca hx _ w ⟨σ, ι, R0⟩) fun e a1 w1 he => ?_)
 have same : ∀ {σ1 : Sto} {ι1 : Ac} {s1 : AS} {a1 : Act} {w1 : World} {b : AG}, AJ C' σ1 ι1 s1 a1 w1 → s1.S yb = some b → b.len = 1 → (ι1 yb).g = some l := fun R1 hs hl1 => by
  obtain ⟨b', h1, h2, h3⟩ := R1.upd yb _ hTy
  rw [hs] at h1
  cases h1
  rw [(h3 hl1).2]
  exact hl
 cases e with
 | normal =>
  obtain ⟨s1, ⟨h1, h2⟩, σ1, ι1, R1⟩ := he
  obtain ⟨q1, ι2, R2, _⟩ := R1.setLoop (rec .busy none) h1 (same R1 h1 rfl) (by rw [hrec])
  refine ⟨_, by
   have := run_beginRound (P := P) q1 (by rw [hrec])
   rw [hrec] at this
   exact this, ?_⟩
  have e1 : (w1.putObj l (.loop (rec .busy none))) = w1.putObj l (.loop { state := .busy, pending := none, fn, tmps, params := ps, assign := ca, body := cb, defers := D }) := by rw [hrec]
  rw [← e1]
  refine wpIn_mono (h2 cb hy _ _ ⟨σ1, ι2, R2⟩) fun e3 a3 w3 he3 => ?_
  have fin : ∀ (jump : Option Code) (s3 s4 : AS) (U2 : AA), AZ C' s3 s4 → s4.S = AF U2 yb (some (.loop env (rec .busy none))) → Aa s4.S → As C' s3 a3 w3 →
    ∃ σ5 ι5 s5, (Instr.endRound l jump).run P w3 = .ok (.bool jump.isNone) (w3.putObj l (.loop (rec (if jump.isNone then .ready else .done) jump))) ∧ s5.S = AF U2 yb (some (.loop env (rec (if jump.isNone then .ready else .done) jump))) ∧ Aa s5.S ∧ AJ C' σ5 ι5 s5 a3 (w3.putObj l (.loop (rec (if jump.isNone then .ready else .done) jump))) := fun jump s3 s4 U2 hg hS hc hH => by
   obtain ⟨σ4, ι4, R4⟩ := hg _ _ hH
   have h4 : s4.S yb = some (.loop env (rec .busy none)) := by rw [hS]; exact AB _ _ _
   obtain ⟨q2, ι5, R5, _⟩ := R4.setLoop (rec (if jump.isNone then .ready else .done) jump) h4 (same R4 h4 rfl) (by rw [hrec])
   refine ⟨σ4, ι5, _, ?_, ?_, ?_, R5⟩
   ·have := run_endRound (P := P) jump q2
    rw [hrec] at this ⊢
    exact this
   ·show AF s4.S yb _ = _
    rw [hS, F6]
   ·exact Ak hc hyb hhigh
  cases e3 with
  | normal =>
   obtain ⟨s3, ⟨s4, U2, g1, g2, g3, g4, g5⟩, hH⟩ := he3
   obtain ⟨σ5, ι5, s5, f1, f2, f3, R5⟩ := fin none s3 s4 U2 g1 g2 g3 hH
   exact ⟨_, _, f1, Dl (C := C') rfl rfl rfl (fun g => Iff.rfl) rfl rfl R5 f3 (.inl ⟨rfl, U2, f2, g4, g5⟩)⟩
  | ret =>
   obtain ⟨s3, ⟨s4, U2, g1, g2, g3, g4, g5⟩, hH⟩ := he3
   obtain ⟨σ5, ι5, s5, f1, f2, f3, R5⟩ := fin (some .ret) s3 s4 U2 g1 g2 g3 hH
   exact ⟨_, _, f1, Dl (C := C') rfl rfl rfl (fun g => Iff.rfl) rfl rfl R5 f3 (.inr ⟨rfl, U2, _, _, f2, g4, .ret, g5⟩)⟩
  | exit i =>
   obtain ⟨s3, ⟨s4, U2, g1, g2, g3, g4, g5⟩, hH⟩ := he3
   obtain ⟨σ5, ι5, s5, f1, f2, f3, R5⟩ := fin (some (.exit i)) s3 s4 U2 g1 g2 g3 hH
   exact ⟨_, _, f1, Dl (C := C') rfl rfl rfl (fun g => Iff.rfl) rfl rfl R5 f3 (.inr ⟨rfl, U2, _, _, f2, g4, .exit i, g5⟩)⟩
  | panic ch => obtain ⟨s3, v, ⟨⟨s4, U2, g1, g2, g3, g4, g5⟩, _⟩, _⟩ := he3; exact g5.elim
  | _ => exact he3.elim
 | panic ch => obtain ⟨s1, v, h1, h2⟩ := he; exact h1.1.elim
 | ret => obtain ⟨s1, h1, h2⟩ := he; exact h1.elim
 | exit i => obtain ⟨s1, h1, h2⟩ := he; exact h1.elim
 | _ => exact he.elim
def A5 (n : Nat) (env : Nat → AV) : List AV := (List.range n).map env
theorem ET {n : Nat} {env : Nat → AV} : (A5 n env).length = n := by simp [A5]
theorem J_ {n i : Nat} {env : Nat → AV} {a : AV} (h : (A5 n env)[i]? = some a) : i < n ∧ a = env i := by
 unfold A5 at h
 rw [List.getElem?_map, Option.map_eq_some_iff] at h
 obtain ⟨j, h1, h2⟩ := h
 obtain ⟨h3, h4⟩ := List.getElem?_eq_some_iff.1 h1
 simp at h3 h4
 subst h4
 exact ⟨h3, h2.symm⟩
theorem Eu {n : Nat} {c : Code} {g : Opd} {ps : List Nat} (h : At P n mu c = some (.rangeF g ps x y)) : ∃ g' ps' ca cb, c = .rangeFunc g' ps' ca cb ∧ AH n g' = some g ∧ ps'.toList = ps ∧ At P n mu ca = some x ∧ At P n mu cb = some y := by
 cases c <;> simp only [At] at h
 case rangeFunc g' ps' ca cb =>
  split at h
  ·rename_i e1 e2 e3
   split at h
   ·cases h
    exact ⟨_, _, _, _, rfl, e1, rfl, e2, e3⟩
   ·cases h
  ·cases h
 all_goals (exfalso; revert h; (repeat' split) <;> simp)
theorem MK {U : AA} {id : Nat} {b c : Option AG} : AF (dnS (AF U (up1 id) b)) id c = AF (dnS U) id c := by
 funext j
 unfold AF
 by_cases e : j = id
 ·rw [if_pos e, if_pos e]
 ·rw [if_neg e, if_neg e]
  show (if j + 1000 = up1 id then b else U (j + 1000)).map (AG.ren dn1) = (U (j + 1000)).map (AG.ren dn1)
  rw [if_neg (show ¬ j + 1000 = up1 id by unfold up1; omega)]
theorem CT {U : AA} {i : Nat} {b : AG} (h : Aa (AF U i (some b))) (hU : U i = none) : Aa U := fun j c hc => h j c (by
 rw [AD _ (fun e => by rw [e, hU] at hc; cases hc)]
 exact hc)
def BX (n : Nat) (env : Nat → AV) : Nat → AV := fun i => if i < n then (env i).ren up1 else .any
theorem J7 {n : Nat} {env : Nat → AV} : (fun i => ((AV.rens up1 (A5 n env))[i]?).getD .any) = BX n env := by
 funext i
 unfold BX A5
 rw [AV.rens_eq, List.map_map, List.getElem?_map]
 by_cases h : i < n
 ·rw [if_pos h, List.getElem?_range h]
  rfl
 ·rw [if_neg h, List.getElem?_eq_none (by simp; omega)]
  rfl
theorem IWP.rangeF {g : Opd} {ps : List Nat} (htop : C.Top) (id : Nat) (hid : id < 1000) (hfree : s.S id = none) {f : Nat} {caps : List AC} (hg : s.ev g = .one (.fn f caps)) (hpl : Bz P f = true) {α : Type} {encs : α → List AV} {all : List α} {Need : AA → Prop} (hit : QU P f (AV.rens up1 (caps.map .one)) Need encs all)
  (hlen : ∀ v, (encs v).length = ps.length) (Inv : List α → AA → Prop) (Jx : AX → AA → Prop) (h0 : Inv [] (upS s.S)) (hneed : ∀ pre U b, Inv pre U → U (up1 id) = none → Need (AF U (up1 id) (some b)))
  (hbody : ∀ (C' : Ctx) (b0 b1 : AG) (pre : List α) (v : α) (U : AA), C'.n = C.n → (pre ++ [v]) <+: all → Inv pre U → U (up1 id) = none → Aa U → b1.high = true →
   IWP P C' mu x (AX.then (fun s1 => s1.S (up1 id) = some b0 ∧ IWP P C' mu y (JL C' (up1 id) b1 (Inv (pre ++ [v])) Jx) (s1.set (up1 id) b1)) fun _ _ => False) ⟨Gc (BX C.n s.env) ps (encs v), AF U (up1 id) (some b0)⟩)
  (hdone : ∀ U, Inv all U → Q .normal ⟨s.env, AF (dnS U) id (some (.dead 1 0))⟩) (hjump : ∀ e U, Jx e U → Q e ⟨s.env, AF (dnS U) id (some (.dead 1 0))⟩) : IWP P C mu (.rangeF g ps x y) Q s := fun c hc a w hH => by
 obtain ⟨g', ps', ca, cb, rfl, hg', rfl, hx, hy⟩ := Eu hc
 obtain ⟨σ, ι, R⟩ := hH
 have rg := R.ev hg'
 rw [hg] at rg
 replace rg := AL rg
 generalize hev : a.eval g' = fv at rg
 cases rg with
 | @fn _ vc _ cc g1 g2 g3 =>
 refine wpIn_rangeFunc fun fn hfn => ?_
 obtain ⟨rec, hrec⟩ : ∃ rec : LoopState → Option Code → Loop, rec = fun st pe => { state := st, pending := pe, fn, tmps := a.tmps, params := ps', assign := ca, body := cb, defers := w.heap.size } := ⟨_, rfl⟩
 obtain ⟨w1, hw1⟩ : ∃ w1, (w.alloc (.deferred (some []))).alloc (.loop (rec .ready none)) = w1 := ⟨_, rfl⟩
 have hsz : (w.alloc (.deferred (some []))).heap.size = w.heap.size + 1 := World.size_alloc _ _
 have R1 : AJ C σ ι s { a with defers := Hy w.heap.size :: a.defers } (w.alloc (.deferred (some []))) := by
  have R' := R.more (w' := w.alloc (.deferred (some []))) (Ext.refl _ _) (R.fit.alloc _) (Ck.alloc _ _)
  refine { R' with nod := ?_ }
  obtain ⟨l, h1, h2, h3, _⟩ := R.nod
  refine ⟨w.heap.size :: l, by show _ :: a.defers = _; rw [h1]; rfl, List.nodup_cons.2 ⟨fun hm => ?_, h2⟩, fun D hD => ?_, fun hm => by rw [htop.2] at hm; cases hm⟩
  ·have := (Array.getElem?_eq_some_iff.1 (h3 _ hm).2).1
   omega
  ·rcases List.mem_cons.1 hD with rfl | hD
   ·exact ⟨R.grown.1, World.alloc_heap_new w _⟩
   ·exact ⟨(h3 D hD).1, (Below.heap_alloc _ _ _ (Array.getElem?_eq_some_iff.1 (h3 D hD).2).1).trans (h3 D hD).2⟩
 have hsize := R.size
 obtain ⟨hu2, R2⟩ := R1.fresh (w' := w1) hfree (.loop (A5 C.n s.env) (rec .ready none)) ⟨none, 0, some (w.heap.size + 1)⟩ (Ext.refl _ _) (by rw [← hw1]; exact R1.fit.alloc _) (by rw [← hw1]; exact Ck.alloc _ _) (fun g hg => by cases hg; omega) (fun S' ι' hu => .loop (g := w.heap.size + 1) rfl (by rw [← hw1, ← hsz]; exact World.alloc_heap_new _ _) (by rw [ET, hrec]; exact hsize) (fun j b hb => by
   obtain ⟨hj, rfl⟩ := J_ hb
   rw [hrec]
   exact (R.env j hj).mono (fun _ _ h => h) hu) (fun p hp => R1.fit.no (by rw [hsz]; omega)))
 have hl2 : (AF ι id (⟨none, 0, some (w.heap.size + 1)⟩ : Hnd) id).g = some (w.heap.size + 1) := by rw [AB]
 generalize AF ι id (⟨none, 0, some (w.heap.size + 1)⟩ : Hnd) = ι2 at R2 hl2 hu2
 obtain ⟨ι3, hι3, hown, hren, hend⟩ := R2.upped
 have hargs : AN (AK σ (upS (s.set id (.loop (A5 C.n s.env) (rec .ready none))).S) ι3) (.func (.yield (w.heap.size + 1)) #[] #[] :: vc.toList) (.one (.yld (up1 id)) :: AV.rens up1 (caps.map .one)) := by
  have hS2 : (s.set id (.loop (A5 C.n s.env) (rec .ready none))).S id = some (.loop (A5 C.n s.env) (rec .ready none)) := AB _ _ _
  refine .cons (hren _ _ (.one (.yld hS2 (Nat.le_refl _) rfl fun _ => ⟨_, hl2, rfl⟩))) ?_
  rw [AV.rens_eq]
  refine (AN.mono (fun v c h => hren v c h) ?_).map_right
  refine (AN.of_get (R := fun v c => AK σ (s.set id (.loop (A5 C.n s.env) (rec .ready none))).S ι2 v (.one c)) (by simpa using g1) fun j v b hv hb => ?_).map_right
  have e := g2 j b hb
  have e2 : vc.toList[j]? = some (cc j) := by simpa using e
  rw [hv] at e2
  cases e2
  exact .one ((g3 j b hb).mono (fun _ _ h => h) hu2)
 have hcl := Db (s.set id (.loop (A5 C.n s.env) (rec .ready none))).S
 have hTeq : upS (s.set id (.loop (A5 C.n s.env) (rec .ready none))).S = AF (upS s.S) (up1 id) (some (.loop (AV.rens up1 (A5 C.n s.env)) (rec .ready none))) := MF _ _ _
 have hcall := hit (up1 id) (fun pre T => ∃ U, T = AF U (up1 id) (some (.loop (AV.rens up1 (A5 C.n s.env)) (rec .ready none))) ∧ U (up1 id) = none ∧ Inv pre U)
  (fun T => ∃ U c e, T = AF U (up1 id) (some (.loop (AV.rens up1 (A5 C.n s.env)) (rec .done (some c)))) ∧ U (up1 id) = none ∧ Nw c e ∧ Jx e U)
  _ (Ba id) (fun pre T hT => by
   obtain ⟨U, rfl, hU, hI⟩ := hT
   exact hneed pre U _ hI hU) (fun pre v hpre T hT => by
   obtain ⟨U, rfl, hU, hI⟩ := hT
   exact J4 hx hy (by rw [AV.rens_eq, List.length_map, ET]) (Ba id) hrec (by rw [hlen]; simp) hU fun hc C' hC' => by
    rw [J7]
    exact hbody C' _ (.loop (AV.rens up1 (A5 C.n s.env)) (rec .busy none)) pre v U hC' hpre hI hU (CT hc hU) (AV.rens_high _))
  ⟨_, hTeq, by rw [B8, hfree]; rfl, h0⟩ hcl σ w1 _ ι3 (C.glob.mono R.ext) R2.fit hown hargs
 refine ⟨w.heap.size + 1, [Hy w.heap.size], w1, { target := .fn (.func f) vc, args := #[.func (.yield (w.heap.size + 1)) #[] #[]] }, w1, f, #[.func (.yield (w.heap.size + 1)) #[] #[]] ++ vc, w1, ?_, ?_, fun _ _ => trivial, ?_, fun h => by simp [fen, Fence.wide] at h, ?_⟩
 ·have hr : (fen C.ro).round = none := htop.1
  rw [hr, ← hw1, hrec]
  exact run_enterLoop_outer _ _ _ _ _
 ·simp only [resolve, hev]
  simp [go_sem]
 ·have := CO (P := P) (w := w1) (args := #[.func (.yield (w.heap.size + 1)) #[] #[]] ++ vc) hpl
  simp [invoke, go_sem, this]
 ·have he0 : (Value.func (.yield (w.heap.size + 1)) #[] #[] :: vc.toList).toArray = #[.func (.yield (w.heap.size + 1)) #[] #[]] ++ vc := by
   apply Array.ext'
   simp
  rw [he0] at hcall
  refine EN (hcall.mono fun e w2 he => ?_)
  obtain ⟨v, r, S', σ', ι4, rfl, hP, hS', hu4, R4⟩ := hend he
  have hl4 : ∀ {b : AG}, dnS S' id = some b → b.len = 1 → (ι4 id).g = some (w.heap.size + 1) := fun hb hb1 => by
   obtain ⟨b', h1, h2, h3⟩ := hu4 id _ (show (s.set id (.loop (A5 C.n s.env) (rec .ready none))).S id = some _ from AB _ _ _)
   rw [hb] at h1
   cases h1
   rw [(h3 hb1).2]
   exact hl2
  have fin : ∀ (U : AA) (env : List AV) (st : LoopState) (pe : Option Code), st ≠ .busy → S' = AF U (up1 id) (some (.loop env (rec st pe))) → ∃ w3, (Instr.endLoop (w.heap.size + 1)).run P w2 = .ok pe w3 ∧ As C ⟨s.env, AF (dnS U) id (some (.dead 1 0))⟩ { a with defers := Hy w.heap.size :: a.defers } w3 := fun U env st pe hst hS => by
   have hb : dnS S' id = some (.loop (AV.rens dn1 env) (rec st pe)) := by
    have := FX (Ba id) (show S' (up1 id) = some (.loop env (rec st pe)) by rw [hS]; exact AB _ _ _)
    rw [GW] at this
    exact this
   have hg4 := hl4 hb rfl
   cases hbr : R4.blk id _ hb with
   | loop k1 k2 k3 k4 k5 =>
    rw [hg4] at k1
    cases k1
    obtain ⟨ι5, R5, _⟩ := R4.setBlk (b' := .dead 1 0) (o' := .loop { rec st pe with state := .exhausted }) hb hg4 k2 k5 rfl rfl fun S'' ι'' hu => .dead fun g' hg' => by
     rw [hg4] at hg'
     cases hg'
     exact ⟨_, (CB k2).1, rfl⟩
    refine ⟨w2.putObj (w.heap.size + 1) (.loop { rec st pe with state := .exhausted }), ?_, σ', ι5, ?_⟩
    ·have := run_endLoop (P := P) k2 (by rw [hrec]; exact hst)
     rw [hrec] at this ⊢
     exact this
    ·have e5 : (AS.set ⟨(s.set id (.loop (A5 C.n s.env) (rec .ready none))).env, dnS S'⟩ id (.dead 1 0)) = ⟨s.env, AF (dnS U) id (some (.dead 1 0))⟩ := by
      show AS.mk s.env (AF (dnS S') id _) = _
      rw [hS, MK]
     rw [← e5]
     exact R5
  rcases hP with ⟨U, h1, h2, h3⟩ | ⟨U, c, e, h1, h2, h3, h4⟩
  ·obtain ⟨w3, f1, f2⟩ := fin U _ .ready none (by simp) h1
   exact ⟨none, w3, f1, _, hdone U h3, f2⟩
  ·obtain ⟨w3, f1, f2⟩ := fin U _ .done (some c) (by simp) h1
   refine ⟨some c, w3, f1, ?_⟩
   cases h3 with
   | ret => exact wpIn_ret ⟨_, hjump _ U h4, f2⟩
   | exit i => exact wpIn_exit ⟨_, hjump _ U h4, f2⟩
end

theorem AJ.move {C : Ctx} {σ : Sto} {ι : Ac} {s : AS} {a : Act} {w : World} (R : AJ C σ ι s a w) {id nid N wd : Nat} {b b' : AG} {h' : Hnd} (hid : s.S id = some b) (hn : s.S nid = none) (hN : b.len < N) (hg : ∀ g, h'.g = some g → (ι id).g = some g) (hb' : ∀ S' ι', BH σ S' ι' w h' b') :
  Upd s.S ι (AF (AF s.S id (some (.dead N wd))) nid (some b')) (AF (AF ι id ⟨none, 0, none⟩) nid h') ∧ AJ C σ (AF (AF ι id ⟨none, 0, none⟩) nid h') ⟨s.env, AF (AF s.S id (some (.dead N wd))) nid (some b')⟩ a w := by
 have n1 : nid ≠ id := fun e => by subst e; rw [hid] at hn; cases hn
 obtain ⟨S2, hS2⟩ : ∃ S2, AF (AF s.S id (some (.dead N wd))) nid (some b') = S2 := ⟨_, rfl⟩
 obtain ⟨ι2, hι2⟩ : ∃ ι2 : Ac, AF (AF ι id ⟨none, 0, none⟩) nid h' = ι2 := ⟨_, rfl⟩
 rw [hS2, hι2]
 have sn : S2 nid = some b' := by rw [← hS2, AB]
 have si : S2 id = some (.dead N wd) := by rw [← hS2, AD _ n1.symm, AB]
 have so : ∀ i, i ≠ nid → i ≠ id → S2 i = s.S i := fun i h2 h3 => by rw [← hS2, AD _ h2, AD _ h3]
 have ιn : ι2 nid = h' := by rw [← hι2, AB]
 have ιi : ι2 id = ⟨none, 0, none⟩ := by rw [← hι2, AD _ n1.symm, AB]
 have ιo : ∀ i, i ≠ nid → i ≠ id → ι2 i = ι i := fun i h2 h3 => by rw [← hι2, AD _ h2, AD _ h3]
 have hu : Upd s.S ι S2 ι2 := fun i b h => by
  by_cases e2 : i = id
  ·subst e2
   rw [hid] at h
   cases h
   exact ⟨_, si, Nat.le_of_lt hN, fun hl => absurd (show N = _ from hl) (by omega)⟩
  ·have e3 : i ≠ nid := fun e3 => by subst e3; rw [hn] at h; cases h
   exact ⟨b, (so i e3 e2).trans h, Nat.le_refl _, fun _ => ⟨rfl, ιo i e3 e2⟩⟩
 have old : ∀ i b, S2 i = some b → ∀ g, (ι2 i).g = some g → ∃ i' b', s.S i' = some b' ∧ (ι i').g = some g ∧ (i = nid ∧ i' = id ∨ i' = i ∧ i ≠ nid ∧ i ≠ id) := fun i b h g hg1 => by
  by_cases e2 : i = id
  ·subst e2
   rw [ιi] at hg1
   cases hg1
  ·by_cases e3 : i = nid
   ·subst e3
    rw [ιn] at hg1
    exact ⟨id, _, hid, hg g hg1, .inl ⟨rfl, rfl⟩⟩
   ·rw [ιo i e3 e2] at hg1
    exact ⟨i, b, (so i e3 e2).symm.trans h, hg1, .inr ⟨rfl, e3, e2⟩⟩
 refine ⟨hu, R.size, fun i hi => (R.env i hi).mono (fun _ _ h => h) hu, R.nod, R.fit, fun i b h => ?_, fun i i' b b' g h1 h2 g1 g2 => ?_, fun i b g h hg1 => ?_, R.ext, R.old, R.os, R.grown, R.same, R.upd.trans hu⟩
 ·change S2 i = some b at h
  by_cases e2 : i = id
  ·subst e2
   rw [si] at h
   cases h
   rw [ιi]
   exact .dead fun g hg => by cases hg
  ·by_cases e3 : i = nid
   ·subst e3
    rw [sn] at h
    cases h
    rw [ιn]
    exact hb' _ _
   ·rw [ιo i e3 e2]
    exact (R.blk i b ((so i e3 e2).symm.trans h)).mono (fun _ _ h => h) hu (fun _ _ => rfl) (fun _ _ _ _ => rfl)
 ·obtain ⟨j1, c1, k1, k2, k3⟩ := old i b h1 g g1
  obtain ⟨j2, c2, l1, l2, l3⟩ := old i' b' h2 g g2
  have := R.inj _ _ _ _ g k1 l1 k2 l2
  rcases k3 with ⟨a1, a2⟩ | ⟨a1, a2, a3⟩ <;> rcases l3 with ⟨b1, b2⟩ | ⟨b1, b2, b3⟩
  ·rw [a1, b1]
  ·exact absurd (by rw [← b1, ← this, a2] : i' = id) b3
  ·exact absurd (by rw [← a1, this, b2] : i = id) a3
  ·rw [← a1, ← b1, this]
 ·obtain ⟨j1, c1, k1, k2, _⟩ := old i b h g hg1
  exact R.base _ _ g k1 k2
theorem Mz {σ : Sto} {S : AA} {ι : Ac} {v : Value} {id n : Nat} (h : AW σ S ι v (.row id n)) : ∃ b, S id = some b ∧ n ≤ b.len ∧ v.oneCell' = true ∧ (n = b.len → v = .slice (ι id).p n (ι id).cap) := by
 cases h with
 | row h1 h2 h3 h4 => exact ⟨_, h1, h2, h3, h4⟩

def Pa (P : Program) (f : FuncId) (caps : List AV) (Need : AA → Prop) {α : Type} (e : TypeId) (wd : Nat) (enc : α → List (List SV)) (all : List α) : Prop :=
 ∀ (y rid : Nat) (Inv : List α → AA → Prop) (Jx : AA → Prop) (T : AA), 1000 ≤ y → 1000 ≤ rid → (∀ pre T, Inv pre T → Need T) → (∀ pre T, Inv pre T → T rid = none) →
  (∀ pre v, (pre ++ [v]) <+: all → ∀ T, Inv pre T → Co P (.one (.yld y)) [.one (.row rid (enc v).length)] (AF T rid (some (.mrow e wd (enc v)))) fun r T' => ∃ V, T' = AF V rid (some (.mrow e wd (enc v))) ∧ V rid = none ∧ ((r = .one (.st (.bool true)) ∧ Inv (pre ++ [v]) V) ∨ (r = .one (.st (.bool false)) ∧ Jx V))) →
  Inv [] T → EV P f (.one (.yld y) :: caps) T fun _ T' => ∃ V b, T' = AF V rid (some b) ∧ (Inv all V ∨ Jx V)
theorem Co.mono {P : Program} {y : AV} {xs : List AV} {S : AA} {Post Post' : AV → AA → Prop} (h : Co P y xs S Post) (hp : ∀ r T, Post r T → Post' r T) : Co P y xs S Post' := by
 have he : ∀ {σ : Sto} {ι : Ac} {w : World} {e : Ending} {w' : World}, JT σ S ι w Post e w' → JT σ S ι w Post' e w' := fun h => by
  obtain ⟨v, r, S', σ', ι', h1, h2, h3⟩ := h
  exact ⟨v, r, S', σ', ι', h1, hp r S' h2, h3⟩
 intro hS σ w vy vs ι h1 h2 h3 h4 h5
 obtain ⟨l, hl, hy⟩ := h hS σ w vy vs ι h1 h2 h3 h4 h5
 refine ⟨l, hl, fun ro => ?_⟩
 obtain ⟨fn, tm, ca, cb, h6, h7⟩ := hy ro
 exact ⟨fn, tm, ca, cb, h6, h7.mono fun _ _ h => he h⟩
theorem AZ.renameM {C : Ctx} {s : AS} (t id nid N : Nat) {e : TypeId} {wd : Nat} {xs : List (List SV)} (hid : s.S id = some (.mrow e wd xs)) (ht : s.env t = .one (.row id xs.length)) (hn : s.S nid = none) (hN : xs.length < N) (htn : t < C.n) :
  AZ C s ⟨AF s.env t (.one (.row nid xs.length)), AF (AF s.S id (some (.dead N wd))) nid (some (.mrow e wd xs))⟩ := fun a w ⟨σ, ι, R⟩ => by
 have hv := R.env t htn
 rw [ht] at hv
 obtain ⟨b0, q1, q2, q3, q4⟩ := Mz (AL hv)
 ·rw [hid] at q1
  cases q1
  have hb := R.blk _ _ hid
  have hbb : ∀ S' ι', BH σ S' ι' w (ι id) (.mrow e wd xs) := fun S' ι' => by
   cases hb with
   | mnil h1 h2 => exact .mnil h1 h2
   | mrow h1 h2 h3 h4 h5 h6 h7 h8 h9 => exact .mrow h1 h2 h3 h4 h5 h6 h7 h8 h9
  obtain ⟨hu, R'⟩ := R.move (N := N) (wd := wd) hid hn hN (fun g hg => hg) hbb
  refine ⟨σ, _, { R' with env := fun i hi => ?_ }⟩
  show AK σ _ _ _ (AF s.env t _ i)
  by_cases hi' : i = t
  ·subst hi'
   rw [AB]
   refine .one (.row (b := .mrow e wd xs) (AB _ _ _) (Nat.le_refl _) q3 fun _ => ?_)
   rw [AB]
   exact q4 rfl
  ·rw [AD _ hi']
   exact R'.env i hi
section
variable {P : Program} {C : Ctx} {mu : List Nat} {Q : AX → AS → Prop} {s : AS} {x y : IR}
theorem PO {U : AA} {r : Nat} {b : AG} : dnS (AF U (up1 r) (some b)) = AF (dnS U) r (some (b.ren dn1)) := by
 funext j
 unfold AF
 by_cases e : j = r
 ·rw [if_pos e]
  show (if j + 1000 = up1 r then some b else U (j + 1000)).map (AG.ren dn1) = _
  rw [if_pos (show j + 1000 = up1 r by unfold up1; omega)]
  rfl
 ·rw [if_neg e]
  show (if j + 1000 = up1 r then some b else U (j + 1000)).map (AG.ren dn1) = (U (j + 1000)).map (AG.ren dn1)
  rw [if_neg (show ¬ j + 1000 = up1 r by unfold up1; omega)]
theorem IWP.rangeW {g : Opd} {ps : List Nat} (htop : C.Top) (id : Nat) (hid : id < 1000) (hfree : s.S id = none) {f : Nat} {caps : List AC} (hg : s.ev g = .one (.fn f caps)) (hpl : Bz P f = true) (r0 : Nat) (hne0 : r0 ≠ id) {α : Type} {e : TypeId} {wd : Nat} {enc : α → List (List SV)} {all : List α} {Need : AA → Prop} (hit : Pa P f (AV.rens up1 (caps.map .one)) Need e wd enc all)
  (hlen : ps.length = 1) (Inv : List α → AA → Prop) (Jx : AX → AA → Prop) (h0 : Inv [] (upS s.S)) (hfr : ∀ pre U, Inv pre U → U (up1 r0) = none) (hneed : ∀ pre U b, Inv pre U → U (up1 id) = none → Need (AF U (up1 id) (some b)))
  (hbody : ∀ (C' : Ctx) (b0 b1 : AG) (pre : List α) (v : α) (U : AA), C'.n = C.n → (pre ++ [v]) <+: all → Inv pre U → U (up1 id) = none → Aa U → b1.high = true →
   IWP P C' mu x (AX.then (fun s1 => s1.S (up1 id) = some b0 ∧ IWP P C' mu y (JL C' (up1 id) b1 (fun V => ∃ V', V = AF V' (up1 r0) (some (.mrow e wd (enc v))) ∧ V' (up1 r0) = none ∧ Inv (pre ++ [v]) V') fun x V => ∃ V', V = AF V' (up1 r0) (some (.mrow e wd (enc v))) ∧ V' (up1 r0) = none ∧ Jx x V') (s1.set (up1 id) b1)) fun _ _ => False) ⟨Gc (BX C.n s.env) ps [.one (.row (up1 r0) (enc v).length)], AF (AF U (up1 r0) (some (.mrow e wd (enc v)))) (up1 id) (some b0)⟩)
  (hdone : ∀ U b, Inv all U → Q .normal ⟨s.env, AF (AF (dnS U) r0 (some b)) id (some (.dead 1 0))⟩) (hjump : ∀ e U b, Jx e U → Q e ⟨s.env, AF (AF (dnS U) r0 (some b)) id (some (.dead 1 0))⟩) : IWP P C mu (.rangeF g ps x y) Q s := fun c hc a w hH => by
 have hne : up1 r0 ≠ up1 id := fun h => hne0 (by unfold up1 at h; omega)
 obtain ⟨g', ps', ca, cb, rfl, hg', rfl, hx, hy⟩ := Eu hc
 obtain ⟨σ, ι, R⟩ := hH
 have rg := R.ev hg'
 rw [hg] at rg
 replace rg := AL rg
 generalize hev : a.eval g' = fv at rg
 cases rg with
 | @fn _ vc _ cc g1 g2 g3 =>
 refine wpIn_rangeFunc fun fn hfn => ?_
 obtain ⟨rec, hrec⟩ : ∃ rec : LoopState → Option Code → Loop, rec = fun st pe => { state := st, pending := pe, fn, tmps := a.tmps, params := ps', assign := ca, body := cb, defers := w.heap.size } := ⟨_, rfl⟩
 obtain ⟨w1, hw1⟩ : ∃ w1, (w.alloc (.deferred (some []))).alloc (.loop (rec .ready none)) = w1 := ⟨_, rfl⟩
 have hsz : (w.alloc (.deferred (some []))).heap.size = w.heap.size + 1 := World.size_alloc _ _
 have R1 : AJ C σ ι s { a with defers := Hy w.heap.size :: a.defers } (w.alloc (.deferred (some []))) := by
  have R' := R.more (w' := w.alloc (.deferred (some []))) (Ext.refl _ _) (R.fit.alloc _) (Ck.alloc _ _)
  refine { R' with nod := ?_ }
  obtain ⟨l, h1, h2, h3, _⟩ := R.nod
  refine ⟨w.heap.size :: l, by show _ :: a.defers = _; rw [h1]; rfl, List.nodup_cons.2 ⟨fun hm => ?_, h2⟩, fun D hD => ?_, fun hm => by rw [htop.2] at hm; cases hm⟩
  ·have := (Array.getElem?_eq_some_iff.1 (h3 _ hm).2).1
   omega
  ·rcases List.mem_cons.1 hD with rfl | hD
   ·exact ⟨R.grown.1, World.alloc_heap_new w _⟩
   ·exact ⟨(h3 D hD).1, (Below.heap_alloc _ _ _ (Array.getElem?_eq_some_iff.1 (h3 D hD).2).1).trans (h3 D hD).2⟩
 have hsize := R.size
 obtain ⟨hu2, R2⟩ := R1.fresh (w' := w1) hfree (.loop (A5 C.n s.env) (rec .ready none)) ⟨none, 0, some (w.heap.size + 1)⟩ (Ext.refl _ _) (by rw [← hw1]; exact R1.fit.alloc _) (by rw [← hw1]; exact Ck.alloc _ _) (fun g hg => by cases hg; omega) (fun S' ι' hu => .loop (g := w.heap.size + 1) rfl (by rw [← hw1, ← hsz]; exact World.alloc_heap_new _ _) (by rw [ET, hrec]; exact hsize) (fun j b hb => by
   obtain ⟨hj, rfl⟩ := J_ hb
   rw [hrec]
   exact (R.env j hj).mono (fun _ _ h => h) hu) (fun p hp => R1.fit.no (by rw [hsz]; omega)))
 have hl2 : (AF ι id (⟨none, 0, some (w.heap.size + 1)⟩ : Hnd) id).g = some (w.heap.size + 1) := by rw [AB]
 generalize AF ι id (⟨none, 0, some (w.heap.size + 1)⟩ : Hnd) = ι2 at R2 hl2 hu2
 obtain ⟨ι3, hι3, hown, hren, hend⟩ := R2.upped
 have hargs : AN (AK σ (upS (s.set id (.loop (A5 C.n s.env) (rec .ready none))).S) ι3) (.func (.yield (w.heap.size + 1)) #[] #[] :: vc.toList) (.one (.yld (up1 id)) :: AV.rens up1 (caps.map .one)) := by
  have hS2 : (s.set id (.loop (A5 C.n s.env) (rec .ready none))).S id = some (.loop (A5 C.n s.env) (rec .ready none)) := AB _ _ _
  refine .cons (hren _ _ (.one (.yld hS2 (Nat.le_refl _) rfl fun _ => ⟨_, hl2, rfl⟩))) ?_
  rw [AV.rens_eq]
  refine (AN.mono (fun v c h => hren v c h) ?_).map_right
  refine (AN.of_get (R := fun v c => AK σ (s.set id (.loop (A5 C.n s.env) (rec .ready none))).S ι2 v (.one c)) (by simpa using g1) fun j v b hv hb => ?_).map_right
  have e := g2 j b hb
  have e2 : vc.toList[j]? = some (cc j) := by simpa using e
  rw [hv] at e2
  cases e2
  exact .one ((g3 j b hb).mono (fun _ _ h => h) hu2)
 have hcl := Db (s.set id (.loop (A5 C.n s.env) (rec .ready none))).S
 have hTeq : upS (s.set id (.loop (A5 C.n s.env) (rec .ready none))).S = AF (upS s.S) (up1 id) (some (.loop (AV.rens up1 (A5 C.n s.env)) (rec .ready none))) := MF _ _ _
 have hcall := hit (up1 id) (up1 r0) (fun pre T => ∃ U, T = AF U (up1 id) (some (.loop (AV.rens up1 (A5 C.n s.env)) (rec .ready none))) ∧ U (up1 id) = none ∧ Inv pre U)
  (fun T => ∃ U c e, T = AF U (up1 id) (some (.loop (AV.rens up1 (A5 C.n s.env)) (rec .done (some c)))) ∧ U (up1 id) = none ∧ Nw c e ∧ Jx e U)
  _ (Ba id) (Ba r0) (fun pre T hT => by
   obtain ⟨U, rfl, hU, hI⟩ := hT
   exact hneed pre U _ hI hU) (fun pre T hT => by
   obtain ⟨U, rfl, hU, hI⟩ := hT
   rw [AD _ hne]
   exact hfr pre U hI) (fun pre v hpre T hT => by
   obtain ⟨U, rfl, hU, hI⟩ := hT
   have hUr := hfr pre U hI
   have hy0 : (AF U (up1 r0) (some (.mrow e wd (enc v)))) (up1 id) = none := by rw [AD _ hne.symm]; exact hU
   rw [Af (Ne.symm hne)]
   refine Co.mono (J4 hx hy (by rw [AV.rens_eq, List.length_map, ET]) (Ba id) hrec (by simpa using hlen.symm) hy0 fun hc C' hC' => by
    rw [J7]
    exact hbody C' _ (.loop (AV.rens up1 (A5 C.n s.env)) (rec .busy none)) pre v U hC' hpre hI hU (CT (CT hc hy0) hUr) (AV.rens_high _)) fun r T' hT' => ?_
   rcases hT' with ⟨rfl, U', rfl, h1, V', rfl, h3, h4⟩ | ⟨rfl, U', c, ex, rfl, h1, hj, V', rfl, h3, h4⟩
   ·rw [AD _ hne.symm] at h1
    refine ⟨AF V' (up1 id) (some (.loop (AV.rens up1 (A5 C.n s.env)) (rec .ready none))), Af hne, by rw [AD _ hne]; exact h3, .inl ⟨rfl, V', rfl, h1, h4⟩⟩
   ·rw [AD _ hne.symm] at h1
    refine ⟨AF V' (up1 id) (some (.loop (AV.rens up1 (A5 C.n s.env)) (rec .done (some c)))), Af hne, by rw [AD _ hne]; exact h3, .inr ⟨rfl, V', c, ex, rfl, h1, hj, h4⟩⟩)
  ⟨_, hTeq, by rw [B8, hfree]; rfl, h0⟩ hcl σ w1 _ ι3 (C.glob.mono R.ext) R2.fit hown hargs
 refine ⟨w.heap.size + 1, [Hy w.heap.size], w1, { target := .fn (.func f) vc, args := #[.func (.yield (w.heap.size + 1)) #[] #[]] }, w1, f, #[.func (.yield (w.heap.size + 1)) #[] #[]] ++ vc, w1, ?_, ?_, fun _ _ => trivial, ?_, fun h => by simp [fen, Fence.wide] at h, ?_⟩
 ·have hr : (fen C.ro).round = none := htop.1
  rw [hr, ← hw1, hrec]
  exact run_enterLoop_outer _ _ _ _ _
 ·simp only [resolve, hev]
  simp [go_sem]
 ·have := CO (P := P) (w := w1) (args := #[.func (.yield (w.heap.size + 1)) #[] #[]] ++ vc) hpl
  simp [invoke, go_sem, this]
 ·have he0 : (Value.func (.yield (w.heap.size + 1)) #[] #[] :: vc.toList).toArray = #[.func (.yield (w.heap.size + 1)) #[] #[]] ++ vc := by
   apply Array.ext'
   simp
  rw [he0] at hcall
  refine EN (hcall.mono fun e w2 he => ?_)
  obtain ⟨v, r, S', σ', ι4, rfl, hP, hS', hu4, R4⟩ := hend he
  have hl4 : ∀ {b : AG}, dnS S' id = some b → b.len = 1 → (ι4 id).g = some (w.heap.size + 1) := fun hb hb1 => by
   obtain ⟨b', h1, h2, h3⟩ := hu4 id _ (show (s.set id (.loop (A5 C.n s.env) (rec .ready none))).S id = some _ from AB _ _ _)
   rw [hb] at h1
   cases h1
   rw [(h3 hb1).2]
   exact hl2
  have fin : ∀ (U : AA) (env : List AV) (st : LoopState) (pe : Option Code), st ≠ .busy → S' = AF U (up1 id) (some (.loop env (rec st pe))) → ∃ w3, (Instr.endLoop (w.heap.size + 1)).run P w2 = .ok pe w3 ∧ As C ⟨s.env, AF (dnS U) id (some (.dead 1 0))⟩ { a with defers := Hy w.heap.size :: a.defers } w3 := fun U env st pe hst hS => by
   have hb : dnS S' id = some (.loop (AV.rens dn1 env) (rec st pe)) := by
    have := FX (Ba id) (show S' (up1 id) = some (.loop env (rec st pe)) by rw [hS]; exact AB _ _ _)
    rw [GW] at this
    exact this
   have hg4 := hl4 hb rfl
   cases hbr : R4.blk id _ hb with
   | loop k1 k2 k3 k4 k5 =>
    rw [hg4] at k1
    cases k1
    obtain ⟨ι5, R5, _⟩ := R4.setBlk (b' := .dead 1 0) (o' := .loop { rec st pe with state := .exhausted }) hb hg4 k2 k5 rfl rfl fun S'' ι'' hu => .dead fun g' hg' => by
     rw [hg4] at hg'
     cases hg'
     exact ⟨_, (CB k2).1, rfl⟩
    refine ⟨w2.putObj (w.heap.size + 1) (.loop { rec st pe with state := .exhausted }), ?_, σ', ι5, ?_⟩
    ·have := run_endLoop (P := P) k2 (by rw [hrec]; exact hst)
     rw [hrec] at this ⊢
     exact this
    ·have e5 : (AS.set ⟨(s.set id (.loop (A5 C.n s.env) (rec .ready none))).env, dnS S'⟩ id (.dead 1 0)) = ⟨s.env, AF (dnS U) id (some (.dead 1 0))⟩ := by
      show AS.mk s.env (AF (dnS S') id _) = _
      rw [hS, MK]
     rw [← e5]
     exact R5
  obtain ⟨V, bb, h0, hP⟩ := hP
  rcases hP with ⟨U, rfl, h2, h3⟩ | ⟨U, c, ex, rfl, h2, h3, h4⟩
  ·obtain ⟨w3, f1, f2⟩ := fin (AF U (up1 r0) (some bb)) _ .ready none (by simp) (h0.trans (Af hne.symm))
   rw [PO] at f2
   exact ⟨none, w3, f1, _, hdone U _ h3, f2⟩
  ·obtain ⟨w3, f1, f2⟩ := fin (AF U (up1 r0) (some bb)) _ .done (some c) (by simp) (h0.trans (Af hne.symm))
   rw [PO] at f2
   refine ⟨some c, w3, f1, ?_⟩
   cases h3 with
   | ret => exact wpIn_ret ⟨_, hjump _ U _ h4, f2⟩
   | exit i => exact wpIn_exit ⟨_, hjump _ U _ h4, f2⟩
end

def EC : IR :=
 (.seq (.ops [.i 2 (.box 3 (.t 0)), .i 3 (.box 3 (.t 1)), .i 4 (.mov (.c (.one (.st (.lit .nilFunc)))))]) (.seq (.ops [.i 5 (.makeFunc 57 [.t 3, .t 2]), .m 4 5]) .ret))
theorem HU : OkF Try.prog 35 6 [] EC [.t 4] := .of Try.func35 rfl rfl (by kernel_rfl) rfl
def De : IR :=
 (.seq (.ops [.l 6 1, .i 7 (.makeSlice 3 1 8 [.int .i64 0] (.t 6) (.t 6)), .m 4 7]) (.block 0 (.loop (.seq (.seq (.ops [.l 8 2, .i 9 (.bin .gtr (.t 8) (.n 0)), .m 10 9, .mk (some 11) (some (10, false)) (.load false 1 (.t 1)) .no, .mk (some 12) (some (10, false)) (.bin .eql (.t 11) (.n 0)) .no, .i 13 (.pick (.t 10) (.c (.one (.st (.bool true)))) (.t 12))]) (.cond (.t 13) .skip (.exit 0))) (.block 1 (.seq (.seq (.ops [.m 14 0, .m 15 4, .i 16 (.callY (.t 14) [.t 15]), .i 17 (.un .not (.t 16))]) (.cond (.t 17) .ret .skip)) (.seq (.ops [.l 18 1, .i 19 (.bin .sub (.t 18) (.n 1)), .m 5 19]) (.seq (.block 2 (.loop (.seq (.seq (.ops [.m 20 5, .i 21 (.bin .geq (.t 20) (.n 0))]) (.cond (.t 21) .skip (.exit 2))) (.seq (.block 3 (.seq (.seq (.ops [.m 24 4, .m 25 5, .i 26 (.indexAddr 1 (.t 24) (.t 25)), .l 27 26, .i 28 (.bin .add (.t 27) (.n 1)), .i 29 (.indexAddr 1 (.t 24) (.t 25)), .s 1 29 28]) (.seq (.ops [.m 30 4, .m 31 5, .i 32 (.indexAddr 1 (.t 30) (.t 31)), .l 33 32, .l 34 2, .i 35 (.bin .lss (.t 33) (.t 34))]) (.cond (.t 35) (.exit 2) .skip))) (.ops [.m 36 4, .m 37 5, .i 38 (.indexAddr 1 (.t 36) (.t 37)), .mk none none (.store 1 (.t 38) (.n 0)) .no]))) (.ops [.m 22 5, .i 23 (.bin .sub (.t 22) (.n 1)), .m 5 23]))))) (.seq (.ops [.m 39 5, .i 40 (.bin .lss (.t 39) (.n 0))]) (.cond (.t 40) .ret .skip))))))))))
theorem F7 : OkF Try.prog 57 41 [70000016] De [] := .of Try.func57 rfl rfl (by kernel_rfl) rfl

theorem AZ.freeze {C : Ctx} {s : AS} (id : Nat) (ts : List Nat) {ty : TypeId} {xs : List SV} (hS : s.S id = some (.box ty (xs.map .st))) (hl : 0 < xs.length) (ht : ∀ t ∈ ts, s.env t = .one (.ptr id 1 0 0)) :
  AZ C s ⟨fun t => if t ∈ ts then .one (.eptr xs) else s.env t, AF s.S id (some (.dead 1 0))⟩ := fun a w ⟨σ, ι, R⟩ => by
 have hb := R.blk _ _ hS
 cases hb with
 | @box _ _ g vs h1 h2 h3 h4 h5 =>
  have hkeep := Ei (σ := σ) (w' := w) (g := g) (k := xs.length) (fun p x e hx => by rw [h5 _ e] at hx; cases hx)
  obtain ⟨hu, R'⟩ := R.turn (w' := w) hS (.dead 1 0) (ι id) (σ' := C4 σ w g xs.length) hkeep (fun p hp _ => EA (fun e => hp (by rw [e]; exact h1))) (Dc R.fit) (Nat.le_refl _) (fun _ => ⟨rfl, rfl⟩) ⟨rfl, rfl, rfl⟩ (Nat.le_refl _) (fun _ _ _ => rfl) (fun g h => .inl h)
   (fun hu => .dead fun g' hg' => by rw [h1] at hg'; cases hg'; exact ⟨_, h3, rfl⟩)
  refine ⟨_, _, R'.size, fun i hi => ?_, R'.nod, R'.fit, R'.blk, R'.inj, R'.base, R'.ext, R'.old, R'.os, R'.grown, R'.same, R'.upd⟩
  show AK _ _ _ _ (if i ∈ ts then .one (.eptr xs) else s.env i)
  split
  ·rename_i hm
   have re := R.env i hi
   rw [ht i hm] at re
   obtain ⟨b, q1, q2, q3⟩ := Da (AL re)
   rw [hS] at q1
   cases q1
   obtain ⟨g', e1, e2⟩ := q3 rfl
   rw [h1] at e1
   cases e1
   rw [e2]
   have cell : ∀ j x, xs[j]? = some x → ∃ v, vs[j]? = some v ∧ Ab σ v x := fun j x hx => by
    obtain ⟨v, v1, v2⟩ := h4.get (j := j) (b := .st x) (by rw [List.getElem?_map, hx]; rfl)
    exact ⟨v, by simpa using v1, BS v2⟩
   refine .one (.eptr (fun j => (vs[j]?).getD undef) (fun j x hx => ?_) (fun j x hx => ?_) (fun _ _ => ?_))
   ·obtain ⟨v, v1, v2⟩ := cell j x hx
    have hj := (List.getElem?_eq_some_iff.1 hx).1
    rw [show (0 * (AG.box ty (xs.map AC.st)).wid + 0 + j) = j by omega, JY hj, cell_of_row w g _ _ _ _ h3, v1]
    rfl
   ·obtain ⟨v, v1, v2⟩ := cell j x hx
    rw [v1]
    exact v2.mono hkeep
   ·rw [GC hl, Eb h3]
  ·exact R'.env i hi

def A9 (n m k : Nat) : List Nat := match m with
 | 0 => []
 | 1 => [k]
 | _ => [k / n, k % n]
def Cc (n m : Nat) : Nat := match m with
 | 0 => 1
 | 1 => n
 | _ => n * n
def C5 (n m : Nat) : List (List Nat) := (List.range (Cc n m)).map (A9 n m)
theorem GK (n m k : Nat) (hm : m ≤ 2) : (A9 n m k).length = m := by
 match m, hm with
 | 0, _ => rfl
 | 1, _ => rfl
 | 2, _ => rfl
theorem O_ {n m k : Nat} (hm : m ≤ 2) (hk : k < Cc n m) : ∀ x ∈ A9 n m k, x < n := by
 match m, hm with
 | 0, _ => simp [A9]
 | 1, _ => simpa [A9, Cc] using hk
 | 2, _ =>
  have hk : k < n * n := hk
  have hn : 0 < n := by
   rcases Nat.eq_zero_or_pos n with h | h
   ·subst h; omega
   ·exact h
  intro x hx
  simp only [A9, List.mem_cons, List.not_mem_nil, or_false] at hx
  rcases hx with rfl | rfl
  ·exact Nat.div_lt_of_lt_mul hk
  ·exact Nat.mod_lt _ hn
theorem Cy {n m : Nat} (hm : m ≤ 2) {l : List Nat} : l ∈ C5 n m ↔ l.length = m ∧ ∀ x ∈ l, x < n := by
 unfold C5
 simp only [List.mem_map, List.mem_range]
 constructor
 ·rintro ⟨k, hk, rfl⟩
  exact ⟨GK n m k hm, O_ hm hk⟩
 ·rintro ⟨h1, h2⟩
  match m, hm, l, h1 with
  | 0, _, [], _ => exact ⟨0, by simp [Cc], rfl⟩
  | 1, _, [a], _ => exact ⟨a, by simpa [Cc] using h2 a (by simp), rfl⟩
  | 2, _, [a, b], _ =>
   have ha := h2 a (by simp)
   have hb := h2 b (by simp)
   refine ⟨a * n + b, ?_, ?_⟩
   ·show a * n + b < n * n
    calc a * n + b < a * n + n := by omega
     _ = (a + 1) * n := by rw [Nat.add_mul, Nat.one_mul]
     _ ≤ n * n := Nat.mul_le_mul_right _ ha
   ·show [(a * n + b) / n, (a * n + b) % n] = [a, b]
    have hn : 0 < n := by omega
    rw [Nat.mul_comm a n, Nat.mul_add_div hn, Nat.div_eq_of_lt hb, Nat.mul_add_mod, Nat.mod_eq_of_lt hb]
    simp
theorem NK {N k : Nat} (h : k ≤ N) : List.range k <+: List.range N := by
 obtain ⟨d, rfl⟩ := Nat.exists_eq_add_of_le h
 rw [List.range_add]
 exact List.prefix_append _ _
theorem Oe {n m k : Nat} (h : k ≤ Cc n m) : (List.range k).map (A9 n m) <+: C5 n m := by
 obtain ⟨r, hr⟩ := NK h
 exact ⟨r.map (A9 n m), by rw [C5, ← hr, List.map_append]⟩
def Dy (n m k : Nat) (i : Int) : List Nat → Prop := fun row => match m with
 | 0 => row = [] ∧ i = -1
 | 1 => (row = [k] ∧ i = 0) ∨ (row = [0] ∧ i = -1 ∧ k + 1 = n)
 | _ => (row = [k / n, k % n] ∧ i = 1) ∨ (row = [k / n, 0] ∧ i = 0 ∧ k % n + 1 = n) ∨ (row = [0, 0] ∧ i = -1 ∧ k % n + 1 = n ∧ k / n + 1 = n)
theorem JH {n m k : Nat} (hm : m ≤ 2) : Dy n m k ((m : Int) - 1) (A9 n m k) := by
 match m, hm with
 | 0, _ => exact ⟨rfl, rfl⟩
 | 1, _ => exact .inl ⟨rfl, rfl⟩
 | 2, _ => exact .inl ⟨rfl, rfl⟩
theorem LI {n m k : Nat} {i : Int} {row : List Nat} (hm : m ≤ 2) (h : Dy n m k i row) : row.length = m := by
 match m, hm with
 | 0, _ => obtain ⟨rfl, _⟩ := h; rfl
 | 1, _ => rcases h with ⟨rfl, _⟩ | ⟨rfl, _⟩ <;> rfl
 | 2, _ => rcases h with ⟨rfl, _⟩ | ⟨rfl, _⟩ | ⟨rfl, _⟩ <;> rfl
theorem NZ {n m k : Nat} {i : Int} {row : List Nat} (hm : m ≤ 2) (h : Dy n m k i row) : -1 ≤ i ∧ i < m := by
 match m, hm with
 | 0, _ => obtain ⟨_, rfl⟩ := h; omega
 | 1, _ => rcases h with ⟨_, rfl⟩ | ⟨_, rfl, _⟩ <;> omega
 | 2, _ => rcases h with ⟨_, rfl⟩ | ⟨_, rfl, _⟩ | ⟨_, rfl, _⟩ <;> omega
theorem Ln {n m k : Nat} {i : Int} {row : List Nat} (hm : m ≤ 2) (hk : k < Cc n m) (h : Dy n m k i row) : ∀ x ∈ row, x < n := by
 match m, hm with
 | 0, _ => obtain ⟨rfl, _⟩ := h; simp
 | 1, _ =>
  have hk : k < n := hk
  rcases h with ⟨rfl, _⟩ | ⟨rfl, _⟩
  ·simpa using hk
  ·simp; omega
 | 2, _ =>
  have hk : k < n * n := hk
  have hn : 0 < n := by
   rcases Nat.eq_zero_or_pos n with h | h
   ·subst h; omega
   ·exact h
  have hml := Nat.mod_lt k hn
  have hq : k / n < n := Nat.div_lt_of_lt_mul hk
  rcases h with ⟨rfl, _⟩ | ⟨rfl, _⟩ | ⟨rfl, _⟩
  ·simp [hml, hq]
  ·simp [hn, hq]
  ·simp [hn]
theorem LF {n m k i : Nat} {row : List Nat} (hm : m ≤ 2) (hk : k < Cc n m) (h : Dy n m k i row) {x : Nat} (hx : row[i]? = some x) (hlt : x + 1 < n) : k + 1 < Cc n m ∧ row.set i (x + 1) = A9 n m (k + 1) := by
 match m, hm with
 | 0, _ => obtain ⟨rfl, h2⟩ := h; omega
 | 1, _ =>
  rcases h with ⟨rfl, h2⟩ | ⟨rfl, h2, _⟩
  ·have : i = 0 := by omega
   subst this
   simp at hx
   subst hx
   exact ⟨hlt, rfl⟩
  ·omega
 | 2, _ =>
  have hk : k < n * n := hk
  have hn : 0 < n := by omega
  have hdm := Nat.div_add_mod k n
  have hml := Nat.mod_lt k hn
  rcases h with ⟨rfl, h2⟩ | ⟨rfl, h2, h3⟩ | ⟨rfl, h2, h3⟩
  ·have : i = 1 := by omega
   subst this
   simp at hx
   subst hx
   have e : k + 1 = n * (k / n) + (k % n + 1) := by omega
   have hq : k / n < n := Nat.div_lt_of_lt_mul hk
   refine ⟨?_, ?_⟩
   ·show k + 1 < n * n
    calc k + 1 = n * (k / n) + (k % n + 1) := e
     _ < n * (k / n) + n := by omega
     _ = n * (k / n + 1) := by rw [Nat.mul_add, Nat.mul_one]
     _ ≤ n * n := Nat.mul_le_mul_left _ hq
   ·show [k / n, k % n + 1] = [(k + 1) / n, (k + 1) % n]
    rw [e, Nat.mul_add_div hn, Nat.div_eq_of_lt hlt, Nat.mul_add_mod, Nat.mod_eq_of_lt hlt]
    rfl
  ·have : i = 0 := by omega
   subst this
   simp at hx
   subst hx
   have e : k + 1 = n * (k / n + 1) := by rw [Nat.mul_add, Nat.mul_one]; omega
   refine ⟨?_, ?_⟩
   ·show k + 1 < n * n
    rw [e]
    exact Nat.mul_lt_mul_of_pos_left hlt hn
   ·show [k / n + 1, 0] = [(k + 1) / n, (k + 1) % n]
    rw [e, Nat.mul_div_cancel_left _ hn, Nat.mul_mod_right]
  ·omega
theorem J9 {n m k i : Nat} {row : List Nat} (hm : m ≤ 2) (hk : k < Cc n m) (h : Dy n m k i row) {x : Nat} (hx : row[i]? = some x) (hge : ¬ x + 1 < n) : Dy n m k ((i : Int) - 1) ((row.set i (x + 1)).set i 0) := by
 match m, hm with
 | 0, _ => obtain ⟨rfl, h2⟩ := h; omega
 | 1, _ =>
  rcases h with ⟨rfl, h2⟩ | ⟨rfl, h2, _⟩
  ·have : i = 0 := by omega
   subst this
   simp at hx
   subst hx
   have hk : k < n := hk
   exact .inr ⟨rfl, rfl, by omega⟩
  ·omega
 | 2, _ =>
  have hk : k < n * n := hk
  have hn : 0 < n := by
   rcases Nat.eq_zero_or_pos n with h | h
   ·subst h; omega
   ·exact h
  have hml := Nat.mod_lt k hn
  have hq : k / n < n := Nat.div_lt_of_lt_mul hk
  rcases h with ⟨rfl, h2⟩ | ⟨rfl, h2, h3⟩ | ⟨rfl, h2, h3⟩
  ·have : i = 1 := by omega
   subst this
   simp at hx
   subst hx
   exact .inr (.inl ⟨rfl, rfl, by omega⟩)
  ·have : i = 0 := by omega
   subst this
   simp at hx
   subst hx
   exact .inr (.inr ⟨rfl, rfl, h3, by omega⟩)
  ·omega
theorem Lp {n m k : Nat} {row : List Nat} (hm : m ≤ 2) (hk : k < Cc n m) (h : Dy n m k (-1) row) : k + 1 = Cc n m := by
 match m, hm with
 | 0, _ => have : k < 1 := hk; show k + 1 = 1; omega
 | 1, _ =>
  rcases h with ⟨_, h2⟩ | ⟨_, _, h2⟩
  ·omega
  ·exact h2
 | 2, _ =>
  rcases h with ⟨_, h2⟩ | ⟨_, h2, _⟩ | ⟨_, _, h2, h3⟩
  ·omega
  ·omega
  ·show k + 1 = n * n
   have hdm := Nat.div_add_mod k n
   have e : n * n = n * (k / n) + n := by
    calc n * n = n * (k / n + 1) := by rw [h3]
     _ = n * (k / n) + n := by rw [Nat.mul_add, Nat.mul_one]
   omega

def AU (l : List Nat) : List (List SV) := l.map fun (x : Nat) => Bo (x : Int)
theorem BF (l : List Nat) : (AU l).length = l.length := by simp [AU]
theorem BY {l : List Nat} {i x : Nat} (h : l[i]? = some x) : (AU l)[i]? = some (Bo (x : Int)) := by simp [AU, h]
theorem Cs (l : List Nat) (i x : Nat) : (AU l).set i [.int .i64 (x : Int)] = AU (l.set i x) := by
 unfold AU
 rw [List.map_set]
theorem Qc (n m : Nat) (hm : m ≤ 2) : List.replicate m [SV.int .i64 0] = AU (A9 n m 0) := by
 match m, hm with
 | 0, _ => rfl
 | 1, _ => rfl
 | 2, _ => simp [AU, A9, List.replicate]
theorem KO {n m : Nat} (hm : m ≤ 2) : 0 < Cc n m ↔ (0 < n ∨ m = 0) := by
 match m, hm with
 | 0, _ => simp [Cc]
 | 1, _ => simp [Cc]
 | 2, _ =>
  show 0 < n * n ↔ _
  constructor
  ·intro h
   rcases Nat.eq_zero_or_pos n with h0 | h0
   ·subst h0; omega
   ·exact .inl h0
  ·rintro (h | h)
   ·exact Nat.mul_pos h h
   ·omega
theorem FY (n m : Nat) (hm : m ≤ 2) (hn : n ≤ 1000000) : Pa Try.prog 57 [.one (.eptr [.int .i64 m]), .one (.eptr [.int .i64 n])] (fun _ => True) 3 1 AU (C5 n m) := by
 intro y rid Inv Jx T0 hy hrid _ hfr hround h0
 refine F7.acR fun hclean C hC htop => ?_
 unfold De
 have s7 : T0 7 = none := C2 hclean (by omega)
 have hr7 : rid ≠ 7 := by omega
 refine W ?_
 refine Wo (fun K hK => ?_)
 (try simp only [go_sem, fN, seval, eT, iR, AS.startS, s7])
 (repeat with_reducible refine Ai ?_)
 refine hK _ ?_
 clear hK K
 refine W ?_
 refine IWP.ghost (AZ.renameM 4 7 rid 5 (e := 3) (wd := 1) (xs := List.replicate m [SV.int .i64 0]) (by simp [AF]) (by simp [AF]) (by
  show AF T0 7 _ rid = none
  rw [AD _ hr7]
  exact hfr _ _ h0) (by simp; omega) (by rw [hC]; decide)) ?_
 repeat' with_reducible first | refine W ?_ | refine Z0 ?_ | ((first | refine Wo fun K hK => ?_ | refine Wq ?_ | refine Wr ?_); (try simp only [go_sem, fN, seval, eT, iR]); (repeat refine Ai ?_); (try (refine hK _ ?_; clear hK K)))
 refine IWP.loop (fun q s => ∃ k T row, (k < Cc n m ∨ (k = 0 ∧ Cc n m = 0)) ∧ q = Cc n m - k ∧ s.env 0 = .one (.yld y) ∧ s.env 1 = .one (.eptr [.int .i64 m]) ∧ s.env 2 = .one (.eptr [.int .i64 n]) ∧ s.env 4 = .one (.row rid m) ∧ s.S rid = some (.mrow 3 1 (AU row)) ∧ row.length = m ∧ (k < Cc n m → row = A9 n m k) ∧ (∀ i, 1000 ≤ i → i ≠ rid → s.S i = T i) ∧ Aa T ∧ T rid = none ∧ Inv ((List.range k).map (A9 n m)) T) (Cc n m)
  ⟨0, T0, A9 n m 0, by omega, rfl, rfl, rfl, rfl, by simp [AF], by rw [← Qc n m hm]; exact AB _ _ _, GK n m 0 hm, fun _ => rfl, fun i hi hne => by
   show AF (AF (AF T0 7 _) 7 _) rid _ i = _
   rw [AD _ hne, AD _ (by omega), AD _ (by omega)], hclean, hfr _ _ h0, by simpa using h0⟩ ?_
 rintro q ⟨env, S⟩ ⟨k, T, row, hk, rfl, e0, e1, e2, e4, sr, hrl, hrow, hST, hT, hTr, hI⟩
 simp only at e0 e1 e2 e4 sr hST
 have fin0 : ∀ {e : AX} {env' : Nat → AV} {S' : AA} {V : AA} {r : List Nat}, (match e with | .normal => True | .ret => True | _ => False) → Aa V → (∀ i, 1000 ≤ i → i ≠ rid → S' i = V i) → S' rid = some (.mrow 3 1 (AU r)) → (Inv (C5 n m) V ∨ Jx V) → PF C [] (fun _ T' => ∃ V b, T' = AF V rid (some b) ∧ (Inv (C5 n m) V ∨ Jx V)) e ⟨env', S'⟩ := fun {e env' S' V r} he hV hs hr hp => ⟨.tup [], AF V rid (some (.mrow 3 1 (AU r))), ⟨V, _, rfl, hp⟩, CX (.tup []) (Ak hV hrid rfl) he rfl rfl fun i hi => by
  by_cases e : i = rid
  ·subst e
   rw [AB]
   exact hr
  ·rw [AD _ e]
   exact hs i hi e⟩
 by_cases hpos : 0 < n ∨ m = 0
 case neg =>
  have h1 : ¬ (0 : Int) < n := by omega
  have h2 : ¬ (m : Int) = 0 := by omega
  have h3 : Cc n m = 0 := by
   have := fun h => hpos ((KO (n := n) hm).1 h)
   exact Nat.eq_zero_of_not_pos this
  have hk0 : k = 0 := by omega
  subst hk0
  have hall : C5 n m = [] := by rw [C5, h3]; rfl
  repeat' with_reducible first | refine W ?_ | refine Z0 ?_ | ((first | refine Wo fun K hK => ?_ | refine Wp ?_ | refine Wq ?_ | refine Wr ?_); (try simp only [go_sem, fN, seval, eT, iR, e0, e1, e2, e4, h1, h2, dT, dF, nL]); (repeat refine Ai ?_); (try (refine hK _ ?_; clear hK K)); try refine iC ?_)
  exact fin0 trivial hT hST sr (.inl (by rw [hall]; exact hI))
 case pos =>
  have hpn : 0 < Cc n m := (KO hm).2 hpos
  have hkl : k < Cc n m := by omega
  obtain rfl := hrow hkl
  have hlen : (AU (A9 n m k)).length = m := by rw [BF, GK n m k hm]
  have hpre : ((List.range k).map (A9 n m)) ++ [A9 n m k] = (List.range (k + 1)).map (A9 n m) := by
   rw [List.range_succ, List.map_append]
   rfl
  have hy' := hround ((List.range k).map (A9 n m)) (A9 n m k) (by rw [hpre]; exact Oe (by omega)) T hI
  rw [hpre, hlen] at hy'
  have harg : FL S (.one (.row rid m)) = .one (.row rid m) := by simp [FL, outV, outC, stC, sr]
  have hSx : ∀ i, 1000 ≤ i → S i = AF T rid (some (.mrow 3 1 (AU (A9 n m k)))) i := fun i hi => by
   by_cases e : i = rid
   ·subst e
    rw [AB]
    exact sr
   ·rw [AD _ e]
    exact hST i hi e
  have hhi : ((AV.one (AC.yld y)).high && AV.highs [.one (.row rid m)]) = true := by
   show ((AC.yld y).high && ((AC.row rid m).high && true)) = true
   rw [Ku hy, KX hrid]
   rfl
  by_cases h1 : (0 : Int) < n
  ·repeat' with_reducible first | refine W ?_ | refine Z0 ?_ | ((first | refine Wo fun K hK => ?_ | refine Wp ?_ | refine Wq ?_ | refine Wr ?_); (try simp only [go_sem, fN, seval, eT, iR, e0, e1, e2, e4, h1, sr, hlen, dT, dF, nL]); (repeat refine Ai ?_); (try (refine hK _ ?_; clear hK K)); try refine iC ?_)
   rw [harg]
   refine JI.mk (AF T rid (some (.mrow 3 1 (AU (A9 n m k))))) _ (Ak hT hrid rfl) hSx hhi hy' ?_
   rintro r S' hS' ⟨V, rfl, hVr, ⟨rfl, hI'⟩ | ⟨rfl, hJ⟩⟩
   ·have hVc : Aa V := CT hS' hVr
    have hj : ∀ i, 1000 ≤ i → i ≠ rid → CJ S (AF V rid (some (.mrow 3 1 (AU (A9 n m k))))) i = V i := fun i hi hne => by rw [Ar hi, AD _ hne]
    have hjr : CJ S (AF V rid (some (.mrow 3 1 (AU (A9 n m k))))) rid = some (.mrow 3 1 (AU (A9 n m k))) := by rw [Ar hrid, AB]
    generalize CJ S (AF V rid (some (.mrow 3 1 (AU (A9 n m k))))) = S1 at hj hjr ⊢
    repeat' with_reducible first | refine W ?_ | refine Z0 ?_ | ((first | refine Wo fun K hK => ?_ | refine Wp ?_ | refine Wq ?_ | refine Wr ?_); (try simp only [go_sem, fN, seval, eT, iR, e0, e1, e2, e4, dT, dF, nL]); (repeat refine Ai ?_); (try (refine hK _ ?_; clear hK K)); try refine iC ?_)
    refine IWP.loop (fun q s => ∃ (i : Int) (row : List Nat), Dy n m k i row ∧ q = (i + 1).toNat ∧ s.env 0 = .one (.yld y) ∧ s.env 1 = .one (.eptr [.int .i64 m]) ∧ s.env 2 = .one (.eptr [.int .i64 n]) ∧ s.env 4 = .one (.row rid m) ∧ s.env 5 = AP i ∧ s.S rid = some (.mrow 3 1 (AU row)) ∧ ∀ i, 1000 ≤ i → i ≠ rid → s.S i = V i) _ ⟨(m : Int) - 1, A9 n m k, JH hm, rfl, e0, e1, e2, e4, rfl, hjr, hj⟩ ?_
    clear hj hjr hSx hST sr hI hT e0 e1 e2 e4 harg
    rintro q ⟨env, S⟩ ⟨i, row, htu, rfl, e0, e1, e2, e4, e5, sr, hST⟩
    simp only at e0 e1 e2 e4 e5 sr hST
    have hil := NZ hm htu
    have hrl := LI hm htu
    have hel : (AU row).length = m := by rw [BF, hrl]
    by_cases hi0 : 0 ≤ i
    ·obtain ⟨j, rfl⟩ : ∃ j : Nat, i = j := ⟨i.toNat, by omega⟩
     obtain ⟨x, hx⟩ := Aq (show j < row.length by omega)
     have hx' := BY hx
     have hjl : j < (AU row).length := by omega
     have hset : (AU row).set j [.int .i64 ((x : Int) + 1)] = AU (row.set j (x + 1)) := Cs row j (x + 1)
     have hjm : (j : Int) < m := hil.2
     have hxn : x < n := Ln hm hkl htu x (AY hx)
     have hel2 : (AU (row.set j (x + 1))).length = m := by rw [BF, List.length_set, hrl]
     have hj2 : (row.set j (x + 1))[j]? = some (x + 1) := by
      rw [List.getElem?_set_self (by omega)]
     have hg2 : (AU (row.set j (x + 1)))[j]? = some (Bo ((x : Int) + 1)) := BY hj2
     have hset2 : (AU (row.set j (x + 1))).set j [.int .i64 0] = AU ((row.set j (x + 1)).set j 0) := Cs (row.set j (x + 1)) j 0
     by_cases hfit : (x : Int) + 1 < n
     ·have hff := LF hm hkl htu hx (by omega)
      have hj0 : ¬ (j : Int) < 0 := by omega
      repeat' with_reducible first | refine W ?_ | refine Z0 ?_ | ((first | refine Wo fun K hK => ?_ | refine Wp ?_ | refine Wq ?_ | refine Wr ?_); (try simp only [go_sem, fN, seval, eT, iR, e0, e1, e2, e4, e5, sr, hx', hjl, hel, hset, hi0, hfit, hrl, hel2, hg2, hjm, hj0, dT, dF, nL]); (repeat refine Ai ?_); (try (refine hK _ ?_; clear hK K)); try refine iC ?_)
      refine AI ⟨Cc n m - (k + 1), by omega, k + 1, V, row.set j (x + 1), .inl hff.1, rfl, e0, e1, e2, e4, AB _ _ _, by rw [List.length_set, hrl], fun _ => hff.2, fun i hi hne => (AD _ hne _).trans (hST i hi hne), hVc, hVr, hI'⟩
     ·have hff := J9 hm hkl htu hx (by omega)
      repeat' with_reducible first | refine W ?_ | refine Z0 ?_ | ((first | refine Wo fun K hK => ?_ | refine Wp ?_ | refine Wq ?_ | refine Wr ?_); (try simp only [go_sem, fN, seval, eT, iR, e0, e1, e2, e4, e5, sr, hx', hjl, hel, hset, hi0, hfit, hrl, hel2, hg2, hset2, hjm, dT, dF, nL]); (repeat refine Ai ?_); (try (refine hK _ ?_; clear hK K)); try refine iC ?_)
      refine AI ⟨((j : Int) - 1 + 1).toNat, by omega, (j : Int) - 1, (row.set j (x + 1)).set j 0, hff, rfl, e0, e1, e2, e4, rfl, AB _ _ _, fun i hi hne => (AD _ hne _).trans ((AD _ hne _).trans (hST i hi hne))⟩
    ·have hi1 : i = -1 := by omega
     subst hi1
     have hend := Lp hm hkl htu
     have hall : (List.range (k + 1)).map (A9 n m) = C5 n m := by rw [hend]; rfl
     rw [hall] at hI'
     repeat' with_reducible first | refine W ?_ | refine Z0 ?_ | ((first | refine Wo fun K hK => ?_ | refine Wp ?_ | refine Wq ?_ | refine Wr ?_); (try simp only [go_sem, fN, seval, eT, iR, e0, e1, e2, e4, e5, dT, dF, nL]); (repeat refine Ai ?_); (try (refine hK _ ?_; clear hK K)); try refine iC ?_)
     exact fin0 trivial hVc hST sr (.inl hI')
   ·have hVc : Aa V := CT hS' hVr
    repeat' with_reducible first | refine W ?_ | refine Z0 ?_ | ((first | refine Wo fun K hK => ?_ | refine Wp ?_ | refine Wq ?_ | refine Wr ?_); (try simp only [go_sem, fN, seval, eT, iR, e0, e1, e2, e4, dT, dF, nL]); (repeat refine Ai ?_); (try (refine hK _ ?_; clear hK K)); try refine iC ?_)
    refine fin0 trivial hVc (fun i hi hne => by rw [Ar hi, AD _ hne]) (by rw [Ar hrid, AB]) (.inr hJ)
  ·have h2 : m = 0 := by omega
   subst h2
   have h3 : (((0 : Nat) : Int) = 0) := rfl
   have hk0 : k = 0 := by
    have : k < 1 := hkl
    omega
   subst hk0
   repeat' with_reducible first | refine W ?_ | refine Z0 ?_ | ((first | refine Wo fun K hK => ?_ | refine Wp ?_ | refine Wq ?_ | refine Wr ?_); (try simp only [go_sem, fN, seval, eT, iR, e0, e1, e2, e4, h1, h3, sr, hlen, dT, dF, nL]); (repeat refine Ai ?_); (try (refine hK _ ?_; clear hK K)); try refine iC ?_)
   rw [harg]
   refine JI.mk (AF T rid (some (.mrow 3 1 (AU (A9 n 0 0))))) _ (Ak hT hrid rfl) hSx hhi hy' ?_
   rintro r S' hS' ⟨V, rfl, hVr, ⟨rfl, hI'⟩ | ⟨rfl, hJ⟩⟩
   ·have hVc : Aa V := CT hS' hVr
    repeat' with_reducible first | refine W ?_ | refine Z0 ?_ | ((first | refine Wo fun K hK => ?_ | refine Wp ?_ | refine Wq ?_ | refine Wr ?_); (try simp only [go_sem, fN, seval, eT, iR, e0, e1, e2, e4, h1, h3, dT, dF, nL]); (repeat refine Ai ?_); (try (refine hK _ ?_; clear hK K)); try refine iC ?_)
    refine IWP.loop (fun q s => s.env 5 = AP (-1) ∧ s.S rid = some (.mrow 3 1 (AU (A9 n 0 0))) ∧ ∀ i, 1000 ≤ i → i ≠ rid → s.S i = V i) 0 ⟨rfl, by show CJ S _ rid = _; rw [Ar hrid, AB], fun i hi hne => by show CJ S _ i = _; rw [Ar hi, AD _ hne]⟩ ?_
    rintro q ⟨env, S⟩ ⟨e5, sr, hST⟩
    simp only at e5 sr hST
    repeat' with_reducible first | refine W ?_ | refine Z0 ?_ | ((first | refine Wo fun K hK => ?_ | refine Wp ?_ | refine Wq ?_ | refine Wr ?_); (try simp only [go_sem, fN, seval, eT, iR, e5, dT, dF, nL]); (repeat refine Ai ?_); (try (refine hK _ ?_; clear hK K)); try refine iC ?_)
    exact fin0 trivial hVc hST sr (.inl hI')
   ·have hVc : Aa V := CT hS' hVr
    repeat' with_reducible first | refine W ?_ | refine Z0 ?_ | ((first | refine Wo fun K hK => ?_ | refine Wp ?_ | refine Wq ?_ | refine Wr ?_); (try simp only [go_sem, fN, seval, eT, iR, e0, e1, e2, e4, h1, h3, dT, dF, nL]); (repeat refine Ai ?_); (try (refine hK _ ?_; clear hK K)); try refine iC ?_)
    refine fin0 trivial hVc (fun i hi hne => by rw [Ar hi, AD _ hne]) (by rw [Ar hrid, AB]) (.inr hJ)
theorem Jy (n m : Nat) : A0 Try.prog 35 [AP n, AP m] (.one (.fn 57 [.eptr [.int .i64 m], .eptr [.int .i64 n]])) := by
 refine HU.ac fun C hC => ?_
 unfold EC
 refine W ?_
 refine Wo (fun K hK => ?_)
 (try simp only [go_sem, fN, seval, eT, iR, AS.start])
 (repeat with_reducible refine Ai ?_)
 refine hK _ ?_
 clear hK K
 refine W ?_
 refine IWP.ghost (AZ.freeze 2 [2] (xs := [.int .i64 n]) rfl (by simp) (by simp [AF])) ?_
 refine IWP.ghost (AZ.freeze 3 [3] (xs := [.int .i64 m]) rfl (by simp) (by simp [AF])) ?_
 repeat' with_reducible first | refine W ?_ | refine Z0 ?_ | ((first | refine Wo fun K hK => ?_ | refine Wq ?_ | refine Wr ?_); (try simp only [go_sem, fN, seval, eT, iR, List.mem_singleton, AS.caps]); (repeat refine Ai ?_); (try (refine hK _ ?_; clear hK K)))
 simp only [go_sem, fN, seval, A6, AS.result, AO, AR, Av, List.all_cons, List.all_nil, AC.stay]
 rfl

open Go.Proofs Go.Shelf
def Try.sortBd_ren : Go.Shelf.Ren := ⟨fun | 6 => 54 | 15 => 68 | 14 => 67 | 28 => 84 | 29 => 85 | 20 => 76 | 21 => 77 | 22 => 78 | 23 => 79 | 24 => 80 | 25 => 81 | 26 => 82 | 27 => 83 | 46 => 91 | 47 => 92 | 48 => 93 | 49 => 94 | 50 => 95 | 57 => 98 | n => n, fun | 22 => 63 | 24 => 72 | 25 => 100 | 3 => 3 | 39 => 111 | 0 => 0 | 53 => 124 | 55 => 65 | 4 => 4 | 46 => 118 | 45 => 117 | 50 => 77 | 5 => 5 | 9 => 9 | 66 => 134 | 70 => 138 | 76 => 146 | 77 => 147 | n => n, fun | n => n⟩
theorem Try.sortBd : Go.Proofs.SlLaysF0.n6 Try.prog Try.sortBd_ren := {
 mixed := by kernel_rfl
 f6 := ⟨Try.f54.name, by decide, Try.func54.trans (congrArg some (by kernel_rfl))⟩
 f14 := ⟨Try.f67.name, by decide, Try.func67.trans (congrArg some (by kernel_rfl))⟩
 f15 := Try.func68.trans (congrArg some (by kernel_rfl))
 f20 := ⟨Try.f76.name, by decide, Try.func76.trans (congrArg some (by kernel_rfl))⟩
 f21 := ⟨Try.f77.name, by decide, Try.func77.trans (congrArg some (by kernel_rfl))⟩
 f22 := ⟨Try.f78.name, by decide, Try.func78.trans (congrArg some (by kernel_rfl))⟩
 f23 := ⟨Try.f79.name, by decide, Try.func79.trans (congrArg some (by kernel_rfl))⟩
 f24 := ⟨Try.f80.name, by decide, Try.func80.trans (congrArg some (by kernel_rfl))⟩
 f25 := ⟨Try.f81.name, by decide, Try.func81.trans (congrArg some (by kernel_rfl))⟩
 f26 := ⟨Try.f82.name, by decide, Try.func82.trans (congrArg some (by kernel_rfl))⟩
 f27 := ⟨Try.f83.name, by decide, Try.func83.trans (congrArg some (by kernel_rfl))⟩
 f28 := Try.func84.trans (congrArg some (by kernel_rfl))
 f29 := Try.func85.trans (congrArg some (by kernel_rfl))
 f46 := ⟨Try.f91.name, by decide, Try.func91.trans (congrArg some (by kernel_rfl))⟩
 f47 := Try.func92.trans (congrArg some (by kernel_rfl))
 f48 := Try.func93.trans (congrArg some (by kernel_rfl))
 f49 := ⟨Try.f94.name, by decide, Try.func94.trans (congrArg some (by kernel_rfl))⟩
 f50 := ⟨Try.f95.name, by decide, Try.func95.trans (congrArg some (by kernel_rfl))⟩
 f57 := ⟨Try.f98.name, by decide, Try.func98.trans (congrArg some (by kernel_rfl))⟩
 t0 := Try.underlying0
 a0 := Try.isAgg0
 z0 := Try.sizeOf0
 v0 := Try.zeroValue0
 t3 := Try.underlying3
 a3 := Try.isAgg3
 z3 := Try.sizeOf3
 v3 := Try.zeroValue3
 t4 := Try.underlying4
 a4 := Try.isAgg4
 z4 := Try.sizeOf4
 v4 := Try.zeroValue4
 t5 := Try.underlying5
 a5 := Try.isAgg5
 z5 := Try.sizeOf5
 v5 := Try.zeroValue5
 t9 := Try.underlying9
 a9 := Try.isAgg9
 z9 := Try.sizeOf9
 v9 := Try.zeroValue9
 t22 := Try.underlying63
 a22 := Try.isAgg63
 z22 := Try.sizeOf63
 v22 := Try.zeroValue63
 t25 := Try.underlying100
 a25 := Try.isAgg100
 z25 := Try.sizeOf100
 v25 := Try.zeroValue100
 t39 := Try.underlying111
 a39 := Try.isAgg111
 z39 := Try.sizeOf111
 v39 := Try.zeroValue111
 t45 := Try.underlying117
 a45 := Try.isAgg117
 z45 := Try.sizeOf117
 v45 := Try.zeroValue117
 t46 := Try.underlying118
 a46 := Try.isAgg118
 z46 := Try.sizeOf118
 v46 := Try.zeroValue118
 t50 := Try.underlying77
 a50 := Try.isAgg77
 z50 := Try.sizeOf77
 v50 := Try.zeroValue77
 t53 := Try.underlying124
 a53 := Try.isAgg124
 z53 := Try.sizeOf124
 v53 := Try.zeroValue124
 t55 := Try.underlying65
 a55 := Try.isAgg65
 z55 := Try.sizeOf65
 v55 := Try.zeroValue65
 t66 := Try.underlying134
 a66 := Try.isAgg134
 z66 := Try.sizeOf134
 v66 := Try.zeroValue134
 t70 := Try.underlying138
 a70 := Try.isAgg138
 z70 := Try.sizeOf138
 v70 := Try.zeroValue138
 t76 := Try.underlying146
 a76 := Try.isAgg146
 z76 := Try.sizeOf146
 v76 := Try.zeroValue146
 t77 := Try.underlying147
 a77 := Try.isAgg147
 z77 := Try.sizeOf147
 v77 := Try.zeroValue147 }

theorem IZ : ∀ l : List UInt8, Op.bytesLess l l = false
 | [] => by simp [Op.bytesLess]
 | x :: xs => by simp [Op.bytesLess, IZ xs]
theorem Jh : ∀ (a b c : List UInt8), Op.bytesLess a b = true → Op.bytesLess b c = true → Op.bytesLess a c = true
 | _, [], _, h, _ => by simp [Op.bytesLess] at h
 | _, _ :: _, [], _, k => by simp [Op.bytesLess] at k
 | [], _ :: _, _ :: _, _, _ => by simp [Op.bytesLess]
 | x :: xs, y :: ys, z :: zs, h, k => by
  simp only [Op.bytesLess, Bool.or_eq_true, Bool.and_eq_true, decide_eq_true_eq, beq_iff_eq] at h k ⊢
  rcases h with h | ⟨rfl, h⟩
  ·rcases k with k | ⟨rfl, k⟩
   ·exact .inl (UInt8.lt_trans h k)
   ·exact .inl h
  ·rcases k with k | ⟨rfl, k⟩
   ·exact .inl k
   ·exact .inr ⟨rfl, Jh xs ys zs h k⟩
theorem Jm : ∀ (a b : List UInt8), Op.bytesLess a b = true ∨ a = b ∨ Op.bytesLess b a = true
 | [], [] => .inr (.inl rfl)
 | [], _ :: _ => .inl (by simp [Op.bytesLess])
 | _ :: _, [] => .inr (.inr (by simp [Op.bytesLess]))
 | x :: xs, y :: ys => by
  simp only [Op.bytesLess, Bool.or_eq_true, Bool.and_eq_true, decide_eq_true_eq, beq_iff_eq, List.cons.injEq]
  rcases Nat.lt_trichotomy x.toNat y.toNat with h | h | h
  ·exact .inl (.inl h)
  ·have e : x = y := UInt8.toNat_inj.1 h
   subst e
   rcases Jm xs ys with h | h | h
   ·exact .inl (.inr ⟨rfl, h⟩)
   ·exact .inr (.inl ⟨rfl, h⟩)
   ·exact .inr (.inr (.inr ⟨rfl, h⟩))
  ·exact .inr (.inr (.inl h))
theorem PS {a b : ByteArray} (h : a.toList = b.toList) : a = b := by
 rw [ByteArray.toList_eq, ByteArray.toList_eq] at h
 cases a; cases b
 simp only at h
 congr 1
 exact Array.toList_inj.1 h
theorem LW (a : ByteArray) : sLt a a = false := IZ _
theorem Nj {a b c : ByteArray} (h : sLt a b = true) (k : sLt b c = true) : sLt a c = true := Jh _ _ _ h k
theorem M8 (a b : ByteArray) : sLt a b = true ∨ a = b ∨ sLt b a = true := by
 rcases Jm a.toList b.toList with h | h | h
 ·exact .inl h
 ·exact .inr (.inl (PS h))
 ·exact .inr (.inr h)
abbrev Bd := ByteArray × Tm
def Qf (b : Bd) : List SV := [.str b.1, .str b.2.name, .list (b.2.args.map Lq)]
instance : K6 Qf 3 := ⟨fun _ => rfl⟩
def lookup (l : List Bd) (n : ByteArray) : Option Tm := (l.find? fun b => decide (b.1 = n)).map (·.2)
mutual
def Tm.on (s : List Bd) : Tm → Tm
 | .mk n xs => match (if xs.isEmpty then lookup s n else none) with
  | some x => x
  | none => .mk n (Tm.onL s xs)
def Tm.onL (s : List Bd) : List Tm → List Tm
 | [] => []
 | t :: ts => t.on s :: Tm.onL s ts
end


def D3 : IR :=
 (.seq (.ops [.i 2 (.mov (.c (.one (.full []))))]) (.seq (.ops [.i 10 (.makeMap (some (Go.Proofs.Ytkegjgodjigjfaa.KK.two none (some .i64)))), .m 3 10]) (.seq (.seq (.ops [.m 11 0, .i 12 (.len false (.t 11)), .i 13 (.mov (.n 0))]) (.block 0 (.loop (.seq (.ops [.i 14 (.bin .lss (.t 13) (.t 12))]) (.seq (.cond (.t 14) .skip (.exit 0)) (.seq (.block 1 (.seq (.ops [.i 15 (.indexAddr 3 (.t 11) (.t 13)), .L 16 3 15, .i 5 (.alloc 25 [.st (.int .i64 0), .full [], .full []]), .s 3 5 16]) (.seq (.ops [.f 17 1 5, .l 18 17, .i 19 (.len false (.t 18)), .i 20 (.mov (.n 0))]) (.block 2 (.loop (.seq (.ops [.i 21 (.bin .lss (.t 20) (.t 19))]) (.seq (.cond (.t 21) .skip (.exit 2)) (.seq (.block 3 (.seq (.ops [.i 22 (.indexAddr 3 (.t 18) (.t 20)), .L 23 3 22, .i 7 (.alloc 46 [.st (.str (ByteArray.mk (#[]))), .full [], .st (.int .i64 0)]), .s 3 7 23]) (.ops [.m 24 3, .f 25 0 7, .l 26 25, .f 27 1 7, .l 28 27, .i 29 (.len false (.t 28)), .i 30 (.build [.st (.str (ByteArray.mk (#[]))), .st (.int .i64 0)] [(0, 1, .t 26), (1, 1, .t 29)]), .mk none none (.mapSet (some (Go.Proofs.Ytkegjgodjigjfaa.KK.two none (some .i64))) (.t 24) (.t 30) (.c (.one (.st (.bool true))))) .no]))) (.ops [.i 31 (.bin .add (.t 20) (.n 1)), .m 20 31]))))))))) (.ops [.i 32 (.bin .add (.t 13) (.n 1)), .m 13 32]))))))) (.seq (.ops [.i 8 (.mov (.c (.one (.full []))))]) (.seq (.seq (.ops [.m 33 3, .i 34 (.rangeM (.t 33))]) (.block 4 (.loop (.seq (.ops [.i 35 (.next (.t 34)), .i 36 (.extract 0 (.t 35))]) (.seq (.cond (.t 36) .skip (.exit 4)) (.block 5 (.seq (.ops [.i 37 (.entry (.t 34)), .i 38 (.extract 0 (.t 37)), .i 9 (.alloc 72 [.st (.str (ByteArray.mk (#[]))), .st (.int .i64 0)]), .s 2 9 38]) (.ops [.m 39 8, .L 40 2 9, .i 41 (.buildSlice false 72 2 [.t 40]), .i 42 (.append true 72 2 24 (.t 39) (.t 41)), .m 8 42])))))))) (.seq (.ops [.m 43 8, .i 44 (.callS 54 [.t 43, .c (.one (.fn 55 []))])]) (.seq (.ops [.m 45 8, .m 2 45]) .ret)))))))
theorem Ge : OkF Try.prog 32 46 [42, 44] D3 [.t 2] := .of Try.func32 rfl rfl (by kernel_rfl) rfl



abbrev Sym := ByteArray × Nat
def Cz (a b : Sym) : Bool := if a.1 = b.1 then decide (a.2 < b.2) else sLt a.1 b.1
theorem Dh (a : Sym) : Cz a a = false := by simp [Cz]
theorem C6 {a b c : Sym} (h : Cz a b = true) (k : Cz b c = true) : Cz a c = true := by
 unfold Cz at *
 by_cases e1 : a.1 = b.1
 ·rw [if_pos e1] at h
  by_cases e2 : b.1 = c.1
  ·rw [if_pos e2] at k
   rw [if_pos (e1.trans e2)]
   simp at h k ⊢
   omega
  ·rw [if_neg e2] at k
   rw [if_neg (fun e => e2 (e1.symm.trans e)), e1]
   exact k
 ·rw [if_neg e1] at h
  by_cases e2 : b.1 = c.1
  ·rw [if_pos e2] at k
   rw [if_neg (fun e => e1 (e.trans e2.symm)), ← e2]
   exact h
  ·rw [if_neg e2] at k
   have := Nj h k
   rw [if_neg (fun e => by rw [e, LW] at this; cases this)]
   exact this
theorem EE (a b : Sym) : Cz a b = true ∨ a = b ∨ Cz b a = true := by
 obtain ⟨a, i⟩ := a
 obtain ⟨b, j⟩ := b
 unfold Cz
 by_cases e : a = b
 ·subst e
  simp only [if_true, decide_eq_true_eq, Prod.mk.injEq, true_and]
  omega
 ·have e' : ¬ b = a := fun h => e h.symm
  show (if a = b then _ else sLt a b) = true ∨ _ ∨ (if b = a then _ else sLt b a) = true
  rw [if_neg e, if_neg e']
  rcases M8 a b with h | h | h
  ·exact .inl h
  ·exact absurd h e
  ·exact .inr (.inr h)
def Dm (l : List Sym) : Prop := l.Pairwise fun a b => Cz a b = true
theorem I1 {l : List Sym} (h : Dm l) : l.Nodup := by
 rw [List.nodup_iff_pairwise_ne]
 exact h.imp fun {a b} h e => by rw [e, Dh] at h; cases h
theorem Et : ∀ {l m : List Sym}, Dm l → Dm m → (∀ x, x ∈ l ↔ x ∈ m) → l = m
 | [], [], _, _, _ => rfl
 | [], b :: m, _, _, h => absurd ((h b).2 (by simp)) (by simp)
 | a :: l, [], _, _, h => absurd ((h a).1 (by simp)) (by simp)
 | a :: l, c :: m, hl, hm, h => by
  obtain ⟨l1, l2⟩ := List.pairwise_cons.1 hl
  obtain ⟨m1, m2⟩ := List.pairwise_cons.1 hm
  have hirr : ∀ {a : Sym}, ¬ Cz a a = true := fun {a} h => by rw [Dh] at h; cases h
  have e : a = c := by
   rcases List.mem_cons.1 ((h a).1 (by simp)) with e | e
   ·exact e
   ·rcases List.mem_cons.1 ((h c).2 (by simp)) with e2 | e2
    ·exact e2.symm
    ·exact absurd (C6 (m1 a e) (l1 c e2)) hirr
  subst e
  refine congrArg (a :: ·) (Et l2 m2 fun x => ?_)
  constructor
  ·intro hx
   rcases List.mem_cons.1 ((h x).1 (List.mem_cons_of_mem _ hx)) with e | e
   ·subst e; exact absurd (l1 _ hx) hirr
   ·exact e
  ·intro hx
   rcases List.mem_cons.1 ((h x).2 (List.mem_cons_of_mem _ hx)) with e | e
   ·subst e; exact absurd (m1 _ hx) hirr
   ·exact e
def F4 (x : Sym) : List Sym → List Sym
 | [] => [x]
 | y :: l => if x = y then y :: l else if Cz x y = true then x :: y :: l else y :: F4 x l
theorem KU {x z : Sym} {l : List Sym} : z ∈ F4 x l ↔ z = x ∨ z ∈ l := by
 induction l with
 | nil => simp [F4]
 | cons y l ih =>
  unfold F4
  split
  ·rename_i e; subst e; simp
  ·split
   ·simp
   ·simp only [List.mem_cons, ih]
    constructor
    ·rintro (h | h | h) <;> simp [h]
    ·rintro (h | h | h) <;> simp [h]
theorem Oa {x : Sym} {l : List Sym} (h : Dm l) : Dm (F4 x l) := by
 induction l with
 | nil => exact List.pairwise_singleton _ _
 | cons y l ih =>
  obtain ⟨h1, h2⟩ := List.pairwise_cons.1 h
  unfold F4
  split
  ·exact h
  ·rename_i e
   split
   ·rename_i hlt
    exact List.pairwise_cons.2 ⟨fun z hz => by
     rcases List.mem_cons.1 hz with rfl | hz
     ·exact hlt
     ·exact C6 hlt (h1 z hz), h⟩
   ·rename_i hlt
    refine List.pairwise_cons.2 ⟨fun z hz => ?_, ih h2⟩
    rcases KU.1 hz with rfl | hz
    ·rcases EE z y with q | q | q
     ·exact absurd q hlt
     ·exact absurd q e
     ·exact q
    ·exact h1 z hz
def BG (l : List Sym) : List Sym := l.foldr F4 []
theorem DR {l : List Sym} {x : Sym} : x ∈ BG l ↔ x ∈ l := by
 induction l with
 | nil => simp [BG]
 | cons y l ih =>
  show x ∈ F4 y (BG l) ↔ _
  rw [KU, ih, List.mem_cons]
theorem GD (l : List Sym) : Dm (BG l) := by
 induction l with
 | nil => exact List.Pairwise.nil
 | cons y l ih => exact Oa ih
theorem FS {l m : List Sym} (h : Dm m) (hm : ∀ x, x ∈ m ↔ x ∈ l) : m = BG l :=
 Et h (GD l) fun x => (hm x).trans DR.symm
theorem FI {l m : List Sym} (h : ∀ x, x ∈ l ↔ x ∈ m) : BG l = BG m :=
 FS (GD l) fun x => DR.trans (h x)
theorem Bm {l : List Sym} (h : l.Nodup) : (BG l).length = l.length := by
 have hp : (BG l).Perm l := by
  induction l with
  | nil => exact List.Perm.nil
  | cons y l ih =>
   obtain ⟨h1, h2⟩ := List.nodup_cons.1 h
   have key : ∀ {m : List Sym}, y ∉ m → (F4 y m).Perm (y :: m) := fun {m} hy => by
    induction m with
    | nil => exact List.Perm.refl _
    | cons z m ih2 =>
     unfold F4
     rw [if_neg (fun e => hy (by simp [e]))]
     split
     ·exact List.Perm.refl _
     ·exact ((ih2 (fun hm => hy (by simp [hm]))).cons z).trans (List.Perm.swap _ _ _)
   exact (key (fun hm => h1 (DR.1 hm))).trans ((ih h2).cons y)
 exact hp.length_eq
def Mv.sym (m : Mv) : Sym := (m.name, m.frm.length)
def Ad (l : List Au) : List Sym := BG (l.flatMap fun a => a.moves.map Mv.sym)
theorem CM {l : List Au} {s : Sym} : s ∈ Ad l ↔ ∃ a ∈ l, ∃ m ∈ a.moves, s = m.sym := by
 unfold Ad
 rw [DR, List.mem_flatMap]
 simp only [List.mem_map, eq_comm]

open Go.Lib Go.Sort
abbrev Cb := ByteArray × Fin 100
def Bc (x : Cb) : List Value := [.string x.1, .int .i64 (x.2.val : Int)]
def K4 (x y : Cb) : Int := if x.1 = y.1 then (x.2.val : Int) - y.2.val else if sLt x.1 y.1 = true then -1 else 1
def Cb.sym (x : Cb) : Sym := (x.1, x.2.val)
theorem CD {x y : Cb} : K4 x y < 0 ↔ Cz x.sym y.sym = true := by
 unfold K4 Cz Cb.sym
 dsimp only
 split
 ·simp only [decide_eq_true_eq]; omega
 ·split
  ·rename_i h; simp [h]
  ·rename_i h; simp [h]
theorem OY (x y : Cb) (W : World) : Calls Try.prog 55 #[.agg (Bc x).toArray, .agg (Bc y).toArray] W fun e w' => e = .returned (.int .i64 (K4 x y)) ∧ ∃ q os', w' = grow (W.drewN q) os' := by
 obtain ⟨x, i⟩ := x
 obtain ⟨y, j⟩ := y
 have hi := i.isLt
 have hj := j.isLt
 generalize hr : K4 (x, i) (y, j) = r
 unfold K4 at hr
 dsimp only at hr
 unfold Bc
 have hlt : sLt x y = Op.bytesLess x.toList y.toList := rfl
 have hin : inR .i64 ((i.val : Int) - j.val) := by rw [DA]; omega
 have hw := Bu hin
 go_enter Try.func55, Try.ntmps55
 go_wp2_with fail
 all_goals go_ret
 all_goals refine ⟨?_, 0, _, by rw [alloc_eq_grow, alloc_eq_grow, grow_grow]; rfl⟩
 all_goals rw [Bt] at *
 all_goals simp_all
theorem No : SWO (ltOf K4) where
 irrefl x := by
  simp only [ltOf, decide_eq_false_iff_not]
  intro h
  have := CD.1 h
  rw [Dh] at this
  cases this
 trans x y z h k := by
  simp only [ltOf, decide_eq_true_eq] at *
  exact CD.2 (C6 (CD.1 h) (CD.1 k))
 ntrans x y z h k := by
  simp only [ltOf, decide_eq_false_iff_not] at *
  intro e
  have e := CD.1 e
  rcases EE y.sym z.sym with q | q | q
  ·exact k (CD.2 q)
  ·rw [← q] at e; exact h (CD.2 e)
  ·exact h (CD.2 (C6 e q))
def GH (s : Sym) : List SV := [.str s.1, .int .i64 (s.2 : Int)]
abbrev QZ (s : Sym) : AV := .agg [.st (.str s.1), .st (.int .i64 (s.2 : Int))]
abbrev CZ (l : List Sym) : AV := .one (.st (.list (l.map GH)))
instance lensEncY : K6 GH 2 := ⟨fun _ => rfl⟩
def L6 (σ : Sto) (x : Cb) (b : Sym) : Prop := x.sym = b ∧ AN (Ab σ) (Bc x) (GH b)
theorem Lr {α β : Type} {R : α → β → Prop} {l1 l2 : List α} (hp : l1.Perm l2) : ∀ {m1 : List β}, AN R l1 m1 → ∃ m2, AN R l2 m2 ∧ m1.Perm m2 := by
 induction hp with
 | nil => intro m1 h; exact ⟨m1, h, List.Perm.refl _⟩
 | cons x _ ih =>
  intro m1 h
  cases h with
  | cons h1 h2 =>
   obtain ⟨m2, q1, q2⟩ := ih h2
   exact ⟨_ :: m2, .cons h1 q1, q2.cons _⟩
 | swap x y l =>
  intro m1 h
  cases h with
  | cons h1 h2 =>
   cases h2 with
   | cons h2 h3 => exact ⟨_, .cons h2 (.cons h1 h3), List.Perm.swap _ _ _⟩
 | trans _ _ ih1 ih2 =>
  intro m1 h
  obtain ⟨m2, q1, q2⟩ := ih1 h
  obtain ⟨m3, q3, q4⟩ := ih2 q1
  exact ⟨m3, q3, q2.trans q4⟩
theorem O9 {σ : Sto} {b : Sym} (hb : b.2 < 100) {v1 v2 : Value} (h1 : Ab σ v1 (.str b.1)) (h2 : Ab σ v2 (.int .i64 (b.2 : Int))) : ∃ x : Cb, [v1, v2] = Bc x ∧ L6 σ x b := by
 have e1 := (DW (S := noS) (ι := noH) (.one (.st h1))).1
 have e2 := (Aj (S := noS) (ι := noH) (.one (.st h2))).1
 subst e1 e2
 exact ⟨(b.1, ⟨b.2, hb⟩), rfl, rfl, .cons h1 (.cons h2 .nil)⟩
theorem GV {σ : Sto} {vs : Array Value} : ∀ (l : List Sym) (base : Nat), (∀ s ∈ l, s.2 < 100) → (∀ k b, l[k]? = some b → ∀ j a, (GH b)[j]? = some a → ∃ v, vs[base + k * 2 + j]? = some v ∧ Ab σ v a) →
  ∃ d : List Cb, AN (L6 σ) d l ∧ ∀ k x j v, d[k]? = some x → (Bc x)[j]? = some v → vs[base + k * 2 + j]? = some v
 | [], base, _, _ => ⟨[], .nil, by simp⟩
 | b :: l, base, hb, h => by
  obtain ⟨d, d1, d2⟩ := GV l (base + 2) (fun s hs => hb s (by simp [hs])) (fun k c hc j a ha => by
   obtain ⟨v, v1, v2⟩ := h (k + 1) c (by simpa using hc) j a ha
   exact ⟨v, by rw [← v1]; congr 1; omega, v2⟩)
  obtain ⟨u1, p1, q1⟩ := h 0 b rfl 0 _ rfl
  obtain ⟨u2, p2, q2⟩ := h 0 b rfl 1 _ rfl
  obtain ⟨x, x1, x2⟩ := O9 (hb b (by simp)) q1 q2
  refine ⟨x :: d, .cons x2 d1, fun k y j v hy hv => ?_⟩
  cases k with
  | zero =>
   simp only [List.getElem?_cons_zero, Option.some.injEq] at hy
   subst hy
   rw [← x1] at hv
   match j, hv with
   | 0, hv => cases hv; exact p1
   | 1, hv => cases hv; exact p2
   | j + 2, hv => simp at hv
  | succ k =>
   have := d2 k y j v (by simpa using hy) hv
   rw [← this]
   congr 1
   omega
theorem F3 (x : Cb) : (Bc x).length = 2 := rfl
theorem IE {d : Array Cb} {t : Nat} (h : t < d.size * 2) : ∃ x v, d[t / 2]? = some x ∧ (Bc x)[t % 2]? = some v ∧ (flatK Bc 2 d)[t]! = v := by
 have hk : t / 2 < d.size := by omega
 have hj : t % 2 < (Bc d[t / 2]).length := by rw [F3]; omega
 refine ⟨d[t / 2], (Bc d[t / 2])[t % 2], Array.getElem?_eq_getElem hk, List.getElem?_eq_getElem hj, ?_⟩
 rw [get_flatK _ _ _ _ h, getElem!_pos d (t / 2) hk, getElem!_pos (Bc d[t / 2]) (t % 2) hj]
theorem Ld (w : World) (g n : Nat) (d : Array Cb) (os : Array Obj) (vs : Array Value) (e : TypeId) (hg : w.heap[g]? = some (.cells vs e (0, 0))) :
  (sortWorldK Bc 2 w g 0 n d os).heap[g]? = some (.cells (putCells id 0 (flatK Bc 2 d) vs) e (0, 0)) ∧ (∀ k, k < w.heap.size → k ≠ g → (sortWorldK Bc 2 w g 0 n d os).heap[k]? = w.heap[k]?) ∧ w.heap.size ≤ (sortWorldK Bc 2 w g 0 n d os).heap.size := by
 have hlt := (Array.getElem?_eq_some_iff.1 hg).1
 have hsz : (putRowK Bc 2 (Sort.ahead w n) g 0 d).heap.size = w.heap.size := by simp [putRowK, putRow, mapBlock, Sort.ahead]
 refine ⟨?_, fun k hk hne => ?_, ?_⟩
 ·unfold sortWorldK
  rw [heap_grow_old _ _ (by rw [hsz]; exact hlt)]
  simp [putRowK, putRow, mapBlock, Sort.ahead, Array.getElem?_modify, hg, onCells]
 ·unfold sortWorldK
  rw [heap_grow_old _ _ (by rw [hsz]; exact hk)]
  simp [putRowK, putRow, mapBlock, Sort.ahead, Array.getElem?_modify, Ne.symm hne]
 ·unfold sortWorldK
  rw [Go.Sort.size_grow, hsz]
  omega
theorem PE {d : Array Cb} {vs : Array Value} (hs : d.size * 2 ≤ vs.size) {k : Nat} {x : Cb} {j : Nat} {v : Value} (hx : d[k]? = some x) (hv : (Bc x)[j]? = some v) : (putCells id 0 (flatK Bc 2 d) vs)[k * 2 + j]? = some v := by
 have hk := (Array.getElem?_eq_some_iff.1 hx).1
 have hj : j < 2 := by have := (List.getElem?_eq_some_iff.1 hv).1; rw [F3] at this; exact this
 have hlt : k * 2 + j < d.size * 2 := by omega
 obtain ⟨y, u, h1, h2, h3⟩ := IE hlt
 have e1 : (k * 2 + j) / 2 = k := by omega
 have e2 : (k * 2 + j) % 2 = j := by omega
 rw [e1, hx] at h1
 cases h1
 rw [e2, hv] at h2
 cases h2
 unfold putCells
 rw [Array.getElem?_mapIdx, Array.getElem?_eq_getElem (by omega), Option.map_some, if_pos (by rw [size_flatK]; omega)]
 simp only [Nat.sub_zero, id, h3]
theorem NU (d : Array Cb) (vs : Array Value) : (putCells id 0 (flatK Bc 2 d) vs).size = vs.size := by simp [putCells]
theorem OP {S : AA} {r : Nat} {b : AG} (h : S r = some b) : AF S r (some b) = S := by
 funext k
 unfold AF
 split
 ·rename_i e; rw [e, h]
 ·rfl
theorem Lw {d : Array Cb} {vs : Array Value} {t : Nat} (h : d.size * 2 ≤ t) : (putCells id 0 (flatK Bc 2 d) vs)[t]? = vs[t]? := by
 unfold putCells
 rw [Array.getElem?_mapIdx]
 cases hv : vs[t]? with
 | none => rfl
 | some v => rw [Option.map_some, if_neg (by rw [size_flatK]; omega)]
abbrev Mx (l : List Sym) : AG := .mrow 72 2 (l.map GH)
abbrev D2 (l : List Sym) (ys : List (List SV)) : AG := .mrow 72 2 (l.map GH ++ ys)
theorem LD (l : List Sym) (ys : List (List SV)) (hys : ∀ y ∈ ys, y.length = 2) (hn : l.Nodup) (hb : ∀ s ∈ l, s.2 < 100) (hl : l.length ≤ 100000) (r : Nat) (hr : 1000 ≤ r) (S : AA) (sr : S r = some (D2 l ys)) (hS : Aa S) (σ : Sto) (w : World) (ι : Ac) (hF : Fit σ w) (hO : DO σ S ι w) :
  Calls Try.prog 54 #[.slice (ι r).p l.length (ι r).cap, .func (.func 55) #[] #[]] w fun e w' => ∃ v σ' ι', e = .returned v ∧ Aa (AF S r (some (D2 (BG l) ys))) ∧ Upd S ι (AF S r (some (D2 (BG l) ys))) ι' ∧ DO σ' (AF S r (some (D2 (BG l) ys))) ι' w' ∧ AK σ' (AF S r (some (D2 (BG l) ys))) ι' v (.tup []) ∧ Fit σ' w' ∧ (∀ p x, σ p = some x → σ' p = some x) ∧
   (∀ p : Addr, p.block < w.heap.size → Bf S ι p.block → σ' p = σ p) ∧ (w'.os = w.os ∧ w'.tape = w.tape ∧ w'.output = w.output) ∧ w.heap.size ≤ w'.heap.size ∧
   (∀ g, g < w.heap.size → Bf S ι g → w'.heap[g]? = w.heap[g]?) ∧ (∀ id b g, AF S r (some (D2 (BG l) ys)) id = some b → (ι' id).g = some g → w.heap.size ≤ g ∨ ¬ Bf S ι g) := by
 have hS' : Aa (AF S r (some (D2 (BG l) ys))) := Ak hS hr rfl
 have hb : BH σ S ι w (ι r) (.mrow 72 2 (l.map GH ++ ys)) := hO.1 r _ sr
 generalize hxs : l.map GH ++ ys = xs at hb
 have hlen : xs.length = l.length + ys.length := by rw [← hxs, List.length_append, List.length_map]
 generalize hh : ι r = hd at hb
 cases hb with
 | mnil k1 k2 =>
  obtain ⟨hl0, hy0⟩ : l = [] ∧ ys = [] := by simpa using hxs
  subst hl0 hy0
  refine (AnyF.slices_SortFunc_none Try.sortBd hd.p hd.cap _ w).mono fun e w' ⟨he, hw⟩ => ?_
  subst hw
  have hid : AF S r (some (D2 (BG []) [])) = S := OP sr
  rw [hid]
  exact ⟨_, σ, ι, he, hS, Upd.refl _ _, hO, .tup (fun _ => undef) rfl (by simp) (by simp), hF, fun _ _ h => h, fun _ _ _ => rfl, ⟨rfl, rfl, rfl⟩, Nat.le_refl _, fun _ _ _ => rfl, fun id b g h1 h2 => .inr fun hno => hno id b h1 h2⟩
 | @mrow _ _ _ g cs k1 k2 k3 k4 k5 k6 k7 k8 k9 =>
  subst hxs
  obtain ⟨d, d1, d2⟩ := GV (σ := σ) (vs := cs) l 0 hb (fun k b hb j a ha => by
   obtain ⟨v, v1, v2⟩ := k8 k (GH b) j a (by rw [List.getElem?_append_left (by rw [List.length_map]; exact Ej hb), List.getElem?_map, hb]; rfl) ha
   exact ⟨v, by rw [Nat.zero_add]; exact v1, v2⟩)
  have dlen : d.length = l.length := d1.len
  have hcap : l.length ≤ hd.cap := by omega
  have hfits : d.toArray.size * 2 ≤ cs.size := by
   rw [k6]
   simp only [List.size_toArray, dlen]
   exact Nat.mul_le_mul_right 2 hcap
  have hH : HoldsK Bc 2 w g 0 d.toArray := fun j hj => by
   rw [size_flatK] at hj
   obtain ⟨x, v, q1, q2, q3⟩ := IE hj
   have q1 : d[j / 2]? = some x := by simpa using q1
   have hc := d2 _ _ _ _ q1 q2
   have e : 0 + j / 2 * 2 + j % 2 = j := by omega
   rw [e] at hc
   refine ⟨?_, ?_⟩
   ·rw [cell_of_row w g _ _ _ _ k3, Nat.zero_add, hc, q3]
    rfl
   ·exact Blk.frozen k3 _
  have eg : ∀ args w, (callFunc 55 args).run Try.prog w = .ok (.enter 55 args) w := enters_of Try.func55 (by kernel_rfl) rfl
  have hgl : g < w.heap.size := (Array.getElem?_eq_some_iff.1 k3).1
  have hcon := AnyQ.slices_SortFunc Try.sortBd 2 Try.isAgg72 Try.sizeOf72 Bc F3 (fun x v hv => by simp [Bc] at hv; rcases hv with rfl | rfl <;> rfl) K4 No 55 #[] g 0 hd.cap d.toArray w eg (fun _ _ _ _ x y => OY x y _) hH hgl (by simp [dlen]; omega)
  rw [show d.toArray.size = l.length by simp [dlen]] at hcon
  rw [k2, show (l.length) = l.length from rfl]
  refine Calls.mono hcon fun e w' ⟨he, d', n, os, hp, hs, hw⟩ => ?_
  obtain ⟨hp1, hp2, hp3⟩ := hp
  have hd'l : d'.size = l.length := by rw [hp1]; simp [dlen]
  have hperm : d.Perm d'.toList := by
   have e1 : d'.extract 0 l.length = d' := by rw [← hd'l]; exact Array.extract_size
   have e2 : d.toArray.extract 0 l.length = d.toArray := by
    rw [show l.length = d.toArray.size by simp [dlen]]
    exact Array.extract_size
   rw [e1, e2] at hp3
   exact hp3.symm
  obtain ⟨l', l1, l2⟩ := Lr hperm d1
  have hl'len : l'.length = l.length := l2.length_eq.symm
  have hord : Dm l' := by
   unfold Dm
   rw [List.pairwise_iff_getElem]
   intro i j hi hj hij
   obtain ⟨x, x1, x2, _⟩ := l1.get (List.getElem?_eq_getElem hi)
   obtain ⟨y, y1, y2, _⟩ := l1.get (List.getElem?_eq_getElem hj)
   have hso := hs i j (Nat.zero_le _) hij (by omega)
   have e1 : d'[i]! = x := by
    rw [Array.getElem?_toList] at x1
    rw [getElem!_def, x1]
   have e2 : d'[j]! = y := by
    rw [Array.getElem?_toList] at y1
    rw [getElem!_def, y1]
   rw [e1, e2] at hso
   simp only [ltOf, decide_eq_false_iff_not] at hso
   have hno : ¬ Cz l'[j] l'[i] = true := fun h => hso (CD.2 (by rw [x2, y2]; exact h))
   have hdiff : l'[i] ≠ l'[j] := by
    have hn' := l2.nodup_iff.1 hn
    rw [List.nodup_iff_pairwise_ne, List.pairwise_iff_getElem] at hn'
    exact hn' i j hi hj hij
   rcases EE l'[i] l'[j] with q | q | q
   ·exact q
   ·exact absurd q hdiff
   ·exact absurd q hno
  have hl' : l' = BG l := FS hord fun x => l2.mem_iff.symm
  subst hl'
  obtain ⟨w1, w2, w3⟩ := Ld w g n d' os cs _ k3
  rw [← hw] at w1 w2 w3
  have hfits' : d'.size * 2 ≤ cs.size := by rw [hd'l]; rw [← dlen]; simpa using hfits
  have hupd : Upd S ι (AF S r (some (D2 (BG l) ys))) ι := fun id b hb => by
   by_cases e : id = r
   ·subst e
    rw [sr] at hb
    cases hb
    exact ⟨_, AB _ _ _, by simp [AG.len, Bm hn], fun _ => ⟨rfl, rfl⟩⟩
   ·exact ⟨b, by rw [AD _ e]; exact hb, Nat.le_refl _, fun _ => ⟨rfl, rfl⟩⟩
  have hotherg : ∀ id b g', id ≠ r → S id = some b → (ι id).g = some g' → g' ≠ g := fun id b g' hne hb hg' e => by
   subst e
   exact hne (hO.2 id r b _ g' hb sr hg' (by rw [hh]; exact k1))
  have hFit : Fit σ w' := fun p x hp => by
   have hlt := hF.lt hp
   by_cases e : p.block = g
   ·rw [k9 p e] at hp; cases hp
   ·exact (Bs (w2 _ hlt e)).trans (hF p x hp)
  refine ⟨_, σ, ι, he, hS', hupd, ⟨fun id b hb => ?_, fun id id' b b' g' q1 q2 q3 q4 => ?_⟩, .tup (fun _ => undef) rfl (by simp) (by simp), hFit, fun _ _ h => h, fun _ _ _ => rfl, ?_, w3, fun g' q1 q2 => ?_, fun id b g' q1 q2 => ?_⟩
  ·by_cases e : id = r
   ·subst e
    rw [AB] at hb
    cases hb
    rw [hh]
    have hlen' : ((BG l).map GH ++ ys).length = l.length + ys.length := by rw [List.length_append, List.length_map, Bm hn]
    refine .mrow k1 k2 w1 (by rw [hlen', ← hlen]; exact k4) k5 (by rw [NU]; exact k6) (fun x hx => ?_) (fun k x j a hx ha => ?_) k9
    ·rcases List.mem_append.1 hx with hx | hx
     ·exact Qa (f := GH) x hx
     ·exact hys x hx
    rcases Nat.lt_or_ge k l.length with hk | hk
    ·rw [List.getElem?_append_left (by rw [List.length_map, Bm hn]; exact hk), List.getElem?_map, Option.map_eq_some_iff] at hx
     obtain ⟨b, hb, rfl⟩ := hx
     obtain ⟨y, y1, y2, y3⟩ := l1.get hb
     obtain ⟨v, v1, v2⟩ := y3.get ha
     exact ⟨v, PE hfits' (by simpa using y1) v1, v2⟩
    ·rw [List.getElem?_append_right (by rw [List.length_map, Bm hn]; exact hk), List.length_map, Bm hn] at hx
     obtain ⟨v, v1, v2⟩ := k8 k x j a (by rw [List.getElem?_append_right (by rw [List.length_map]; exact hk), List.length_map]; exact hx) ha
     exact ⟨v, by rw [Lw (by rw [hd'l]; omega)]; exact v1, v2⟩
   ·rw [AD _ e] at hb
    refine (hO.1 id b hb).mono (fun _ _ h => h) hupd (fun g' hg' => w2 g' ((hO.1 id b hb).gsome hg') (hotherg id b g' e hb hg')) (fun _ _ _ _ => rfl)
  ·have back : ∀ i c, AF S r (some (D2 (BG l) ys)) i = some c → ∃ c', S i = some c' := fun i c hc => by
    by_cases e : i = r
    ·subst e; exact ⟨_, sr⟩
    ·rw [AD _ e] at hc; exact ⟨c, hc⟩
   obtain ⟨c1, c1'⟩ := back _ _ q1
   obtain ⟨c2, c2'⟩ := back _ _ q2
   exact hO.2 _ _ _ _ _ c1' c2' q3 q4
  ·rw [hw]
   exact ⟨rfl, rfl, rfl⟩
  ·exact w2 g' q1 fun e => q2 r _ sr (by rw [hh, e]; exact k1)
  ·refine .inr fun hno => ?_
   by_cases e : id = r
   ·subst e; exact hno id _ sr q2
   ·rw [AD _ e] at q1; exact hno id _ q1 q2
theorem KA (l : List Sym) (hn : l.Nodup) (hb : ∀ s ∈ l, s.2 < 100) (hl : l.length ≤ 100000) (r : Nat) (hr : 1000 ≤ r) (S : AA) (sr : S r = some (Mx l)) :
  BR Try.prog 54 [.one (.row r l.length), .one (.fn 55 [])] S (.tup []) (AF S r (some (Mx (BG l)))) := by
 intro hS σ w vs ι hG hF hO hv
 cases hv with
 | @cons v1 _ _ _ h1 hv =>
 cases hv with
 | @cons v2 _ _ _ h2 hv =>
 cases hv
 obtain ⟨b, b1, b2, b3⟩ := Bv (AL h1)
 rw [sr] at b1
 cases b1
 have hv1 := b3 (by simp [AG.len])
 subst hv1
 have hv2 : v2 = .func (.func 55) #[] #[] := by
  cases AL h2 with
  | @fn _ vs _ c q1 q2 q3 =>
   have e : vs = #[] := Array.eq_empty_of_size_eq_zero (by simpa using q1)
   rw [e]
 subst hv2
 have e : ∀ m : List Sym, Mx m = D2 m [] := fun m => by rw [D2, List.append_nil]
 rw [e] at sr ⊢
 exact LD l [] (by simp) hn hb hl r hr S sr hS σ w ι hF hO

def met {α : Type} (l : List α) (seen : List Nat) : List α := seen.filterMap fun j => l[j]?
theorem OV {α : Type} {l : List α} {seen : List Nat} {j : Nat} {b : α} (h : l[j]? = some b) : met l (seen ++ [j]) = met l seen ++ [b] := by
 unfold met
 rw [List.filterMap_append, List.filterMap_cons_some h]
 rfl
theorem L3 {α : Type} {l : List α} : ∀ {seen : List Nat}, (∀ j ∈ seen, j < l.length) → (met l seen).length = seen.length
 | [], _ => rfl
 | j :: seen, h => by
  have hj := h j (by simp)
  unfold met
  rw [List.filterMap_cons_some (List.getElem?_eq_getElem hj), List.length_cons, List.length_cons]
  exact congrArg (· + 1) (L3 fun i hi => h i (by simp [hi]))
theorem Gt {n : Nat} {seen : List Nat} (hn : seen.Nodup) (h : ∀ j ∈ seen, j < n) : seen.length ≤ n := by
 have h1 : seen.Perm ((List.range n).filter fun j => decide (j ∈ seen)) := (List.perm_ext_iff_of_nodup hn (List.nodup_range.filter _)).2 fun j => by
  rw [List.mem_filter, List.mem_range, decide_eq_true_eq]
  exact ⟨fun hj => ⟨h j hj, hj⟩, fun hj => hj.2⟩
 rw [h1.length_eq]
 exact Nat.le_trans (List.length_filter_le _ _) (Nat.le_of_eq List.length_range)
theorem Oj {α : Type} {l : List α} {seen : List Nat} (hn : seen.Nodup) (h : ∀ j ∈ seen, j < l.length) (hall : ∀ j, j < l.length → j ∈ seen) : (met l seen).Perm l := by
 have hp : seen.Perm (List.range l.length) := (List.perm_ext_iff_of_nodup hn List.nodup_range).2 fun j => ⟨fun hj => List.mem_range.2 (h j hj), fun hj => hall j (List.mem_range.1 hj)⟩
 have := hp.filterMap fun j => l[j]?
 rw [Cf] at this
 exact this

end Go.Proofs.Ytkegjgodjigjfaa
