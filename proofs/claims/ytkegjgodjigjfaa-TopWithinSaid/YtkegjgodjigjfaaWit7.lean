/-
  Part 7 of the texts. Conditions: none.
-/
import Derived.Test.YtkegjgodjigjfaaWit6
namespace Go.Proofs.Ytkegjgodjigjfaa
open Go Go.RowKit
set_option linter.unusedVariables false
set_option linter.unusedSimpArgs false
set_option maxHeartbeats 1000000
theorem O6 (l : List Int) (hl : l.length ≤ 1000000) : Ac Try.prog 49 [C3 l] (C3 l) := by
 refine B9.ac fun C hC => ?_
 unfold BX
 by_cases h0 : l.length = 0
 ·have hl : l = [] := List.eq_nil_of_length_eq_zero h0
  subst hl
  repeat' with_reducible first | refine W ?_ | refine Z0 ?_ | ((first | refine Wo fun K hK => ?_ | refine Wp ?_ | refine Wq ?_ | refine Wr ?_); (try simp only [go_sem, fN, seval, eT, iR, dT, dF, nL]); (repeat refine Ai ?_); (try (refine hK _ ?_; clear hK K)); try refine iC ?_)
  refine ⟨?_, ?_⟩
  ·repeat' with_reducible first | refine W ?_ | refine Z0 ?_ | ((first | refine Wo fun K hK => ?_ | refine Wp ?_ | refine Wq ?_ | refine Wr ?_); (try simp only [go_sem, fN, seval, eT, iR, dT, dF, nL]); (repeat refine Ai ?_); (try (refine hK _ ?_; clear hK K)); try refine iC ?_)
   simp only [go_sem, fN, seval, Ae, AS.result, AK, AL, AZ]
   rfl
  ·repeat' with_reducible first | refine W ?_ | refine Z0 ?_ | ((first | refine Wo fun K hK => ?_ | refine Wp ?_ | refine Wq ?_ | refine Wr ?_); (try simp only [go_sem, fN, seval, eT, iR, dT, dF, nL]); (repeat refine Ai ?_); (try (refine hK _ ?_; clear hK K)); try refine iC ?_)
   simp only [go_sem, fN, seval, Ae, AS.result, AK, AL, AZ]
   rfl
 ·have hb : l.length * 8 ≤ 140737488355328 := by omega
  repeat' with_reducible first | refine W ?_ | refine Z0 ?_ | ((first | refine Wo fun K hK => ?_ | refine Wp ?_ | refine Wq ?_ | refine Wr ?_); (try simp only [go_sem, fN, seval, eT, iR, h0, hb, dT, dF, nL]); (repeat refine Ai ?_); (try (refine hK _ ?_; clear hK K)); try refine iC ?_)
  simp only [go_sem, fN, seval, Ae, AS.result, AK, AL, AZ]
theorem Kk (l : List Int) (hl : l.length ≤ 1000000) : Gt Try.prog 49 [C3 l] 3 1 (l.map BE) := by
 unfold Gt
 rw [List.length_map]
 refine B9.acS fun hS C hC => ?_
 unfold BX
 by_cases h0 : l.length = 0
 ·have hl : l = [] := List.eq_nil_of_length_eq_zero h0
  subst hl
  repeat' with_reducible first | refine W ?_ | refine Z0 ?_ | ((first | refine Wo fun K hK => ?_ | refine Wp ?_ | refine Wq ?_ | refine Wr ?_); (try simp only [go_sem, fN, seval, eT, iR, dT, dF, nL]); (repeat refine Ai ?_); (try (refine hK _ ?_; clear hK K)); try refine iC ?_)
  refine ⟨?_, ?_⟩
  ·repeat' with_reducible first | refine W ?_ | refine Z0 ?_ | ((first | refine Wo fun K hK => ?_ | refine Wp ?_ | refine Wq ?_ | refine Wr ?_); (try simp only [go_sem, fN, seval, eT, iR, dT, dF, nL]); (repeat refine Ai ?_); (try (refine hK _ ?_; clear hK K)); try refine iC ?_)
   refine Lj (Aa.own (C := C) 2 30 3 1 (xs := []) rfl rfl (by simp) (by omega)) ?_
   exact QW (mu := false) trivial 30 (by decide) rfl (fun i hi => by show AB _ _ _ _ = _; rw [AE _ (by omega)]; rfl) rfl
  ·repeat' with_reducible first | refine W ?_ | refine Z0 ?_ | ((first | refine Wo fun K hK => ?_ | refine Wp ?_ | refine Wq ?_ | refine Wr ?_); (try simp only [go_sem, fN, seval, eT, iR, dT, dF, nL]); (repeat refine Ai ?_); (try (refine hK _ ?_; clear hK K)); try refine iC ?_)
   exact QW (mu := false) trivial 7 (by decide) rfl (fun i hi => by show AB _ _ _ _ = _; rw [AE _ (by omega)]; rfl) rfl
 ·have hb : l.length * 8 ≤ 140737488355328 := by omega
  repeat' with_reducible first | refine W ?_ | refine Z0 ?_ | ((first | refine Wo fun K hK => ?_ | refine Wp ?_ | refine Wq ?_ | refine Wr ?_); (try simp only [go_sem, fN, seval, eT, iR, h0, hb, dT, dF, nL]); (repeat refine Ai ?_); (try (refine hK _ ?_; clear hK K)); try refine iC ?_)
  exact QW (mu := false) trivial 7 (by decide) rfl (fun i hi => by show AB _ _ _ _ = _; rw [AE _ (by omega)]; rfl) rfl

def AF (a : Au) : AJ := .box 25 [.st (.int .i64 a.states), .st (.list (a.moves.map Ab)), .st (.list (a.last.map BE))]
theorem Ld (a : Au) (x : Int) (b : Nat) (hb : 1000 ≤ b) (S : AA) (sb : S b = some (AF a)) : BM Try.prog 72 [AR x, .one (.ptr b 1 0 0)] S (BJ (!inS a.states x)) S := by
 refine FO.acS fun hS C hC => ?_
 unfold DB
 unfold AF at sb
 by_cases h1 : x < 0
 ·have e : inS a.states x = false := Mr (Or.inl h1)
  repeat' with_reducible first | refine W ?_ | refine Z0 ?_ | ((first | refine Wo fun K hK => ?_ | refine Wp ?_ | refine Wq ?_ | refine Wr ?_); (try simp only [go_sem, fN, seval, eT, iR, sb, h1, dT, dF, nL]); (repeat refine Ai ?_); (try (refine hK _ ?_; clear hK K)); try refine iC ?_)
  refine CS (BJ (!inS a.states x)) hS trivial ?_ ?_ fun j hj => ?_
  ·rw [e]
   rfl
  ·rfl
  ·rfl
 by_cases h2 : a.states ≤ x
 ·have e : inS a.states x = false := Mr (Or.inr h2)
  repeat' with_reducible first | refine W ?_ | refine Z0 ?_ | ((first | refine Wo fun K hK => ?_ | refine Wp ?_ | refine Wq ?_ | refine Wr ?_); (try simp only [go_sem, fN, seval, eT, iR, sb, h1, h2, dT, dF, nL]); (repeat refine Ai ?_); (try (refine hK _ ?_; clear hK K)); try refine iC ?_)
  refine CS (BJ (!inS a.states x)) hS trivial ?_ ?_ fun j hj => ?_
  ·rw [e]
   rfl
  ·rfl
  ·rfl
 ·have e : inS a.states x = true := PN h1 h2
  repeat' with_reducible first | refine W ?_ | refine Z0 ?_ | ((first | refine Wo fun K hK => ?_ | refine Wp ?_ | refine Wq ?_ | refine Wr ?_); (try simp only [go_sem, fN, seval, eT, iR, sb, h1, h2, dT, dF, nL]); (repeat refine Ai ?_); (try (refine hK _ ?_; clear hK K)); try refine iC ?_)
  refine CS (BJ (!inS a.states x)) hS trivial ?_ ?_ fun j hj => ?_
  ·rw [e]
   rfl
  ·rfl
  ·rfl
theorem P1 {p : Int → Bool} (xs : List Int) : 0 ≤ (match xs.findIdx? p with | some i => (i : Int) | none => -1) ↔ xs.any p = true := by
 cases h : xs.findIdx? p with
 | some i =>
  rw [List.findIdx?_eq_some_iff_getElem] at h
  obtain ⟨h1, h2, _⟩ := h
  simp only [List.any_eq_true]
  exact ⟨fun _ => ⟨_, List.getElem_mem h1, h2⟩, fun _ => by omega⟩
 | none =>
  rw [List.findIdx?_eq_none_iff] at h
  constructor
  ·intro h'
   exact absurd h' (by decide)
  ·intro h'
   rw [List.any_eq_true] at h'
   obtain ⟨x, hx, hp⟩ := h'
   rw [h x hx] at hp
   cases hp
theorem LY {p : Int → Bool} {xs : List Int} {k : Nat} {x : Int} (hx : xs[k]? = some x) (h : (xs.take k).any p = false) (hp : p x = true) : xs.findIdx? p = some k := by
 obtain ⟨hk, he⟩ := List.getElem?_eq_some_iff.1 hx
 rw [List.findIdx?_eq_some_iff_getElem]
 refine ⟨hk, by rw [he]; exact hp, fun j hj => ?_⟩
 rw [List.any_eq_false] at h
 have := h (xs[j]'(by omega)) (by
  rw [List.mem_take_iff_getElem]
  exact ⟨j, by omega, rfl⟩)
 simpa using this
theorem Jp (a : Au) (xs : List Int) (hl : xs.length ≤ 9223372036854775807) (b : Nat) (hb : 1000 ≤ b) (S : AA) (sb : S b = some (AF a)) :
  BM Try.prog 87 [C3 xs, .one (.fn 72 [.ptr b 1 0 0])] S (AR (match xs.findIdx? (fun x => !inS a.states x) with | some i => (i : Int) | none => -1)) S := by
 refine Cq.acS fun hS C hC => ?_
 unfold Bl
 repeat' with_reducible first | refine W ?_ | refine Z0 ?_ | ((first | refine Wo fun K hK => ?_ | refine Wp ?_ | refine Wq ?_ | refine Wr ?_); (try simp only [go_sem, fN, seval, eT, iR, dT, dF, nL]); (repeat refine Ai ?_); (try (refine hK _ ?_; clear hK K)); try refine iC ?_)
 refine IWP.loop (fun n s => ∃ k, k ≤ xs.length ∧ n = xs.length - k ∧ (xs.take k).any (fun x => !inS a.states x) = false ∧ s.env 0 = C3 xs ∧ s.env 1 = .one (.fn 72 [.ptr b 1 0 0]) ∧ s.env 7 = AR xs.length ∧ s.env 8 = AR k ∧ s.S = S) xs.length ⟨0, Nat.zero_le _, rfl, rfl, rfl, rfl, rfl, rfl, rfl⟩ ?_
 rintro n ⟨env, S'⟩ ⟨k, hk, rfl, hp, e0, e1, e7, e8, eS⟩
 simp only at e0 e1 e7 e8 eS
 subst eS
 by_cases hlt : (k : Int) < xs.length
 ·obtain ⟨x, hx⟩ := Ap (show k < xs.length by omega)
  have hst := Nm (p := fun x => !inS a.states x) hx hp
  have hc := Ld a x (up1 b) (BY b) (upS S') (by rw [CR, sb]; rfl)
  repeat' with_reducible first | refine W ?_ | refine Z0 ?_ | ((first | refine Wo fun K hK => ?_ | refine Wp ?_ | refine Wq ?_ | refine Wr ?_); (try simp only [go_sem, fN, seval, eT, iR, e0, e1, e7, e8, hlt, hx, dT, dF, nL]); (repeat refine Ai ?_); (try (refine hK _ ?_; clear hK K)); try refine iC ?_)
  first | refine ⟨by kernel_rfl, _, _, hc, ?_⟩ | refine ⟨_, _, hc, ?_⟩
  by_cases hr : (!inS a.states x) = true
  ·have hi := LY (p := fun x => !inS a.states x) hx hp hr
   repeat' with_reducible first | refine W ?_ | refine Z0 ?_ | ((first | refine Wo fun K hK => ?_ | refine Wp ?_ | refine Wq ?_ | refine Wr ?_); (try simp only [go_sem, fN, seval, eT, iR, e0, e1, e7, e8, hr, dT, dF, nL]); (repeat refine Ai ?_); (try (refine hK _ ?_; clear hK K)); try refine iC ?_)
   refine CS (AR k) hS trivial ?_ ?_ fun j hj => ?_
   ·simp [AK, AL, AZ, AB]
   ·rw [hi]
    rfl
   ·rfl
  ·have hr' : (!inS a.states x) = false := by simpa using hr
   repeat' with_reducible first | refine W ?_ | refine Z0 ?_ | ((first | refine Wo fun K hK => ?_ | refine Wp ?_ | refine Wq ?_ | refine Wr ?_); (try simp only [go_sem, fN, seval, eT, iR, e0, e1, e7, e8, hr', dT, dF, nL]); (repeat refine Ai ?_); (try (refine hK _ ?_; clear hK K)); try refine iC ?_)
   refine AH ⟨xs.length - (k + 1), by omega, k + 1, by omega, rfl, ?_⟩
   simp only [go_sem, fN, seval, eT, iR, e0, e1, e7, e8]
   exact ⟨by rw [hst]; exact hr', by congr 3⟩
 ·rw [List.take_of_length_le (by omega)] at hp
  have hi : xs.findIdx? (fun x => !inS a.states x) = none := by
   rw [List.findIdx?_eq_none_iff]
   intro x hx
   rw [List.any_eq_false] at hp
   simpa using hp x hx
  repeat' with_reducible first | refine W ?_ | refine Z0 ?_ | ((first | refine Wo fun K hK => ?_ | refine Wp ?_ | refine Wq ?_ | refine Wr ?_); (try simp only [go_sem, fN, seval, eT, iR, e0, e1, e7, e8, hlt, dT, dF, nL]); (repeat refine Ai ?_); (try (refine hK _ ?_; clear hK K)); try refine iC ?_)
  refine CS (AR (-1)) hS trivial ?_ ?_ fun j hj => ?_
  ·simp [AK, AL, AZ, AB]
  ·rw [hi]
   rfl
  ·rfl
theorem Gk (a : Au) (xs : List Int) (hl : xs.length ≤ 9223372036854775807) (b : Nat) (hb : 1000 ≤ b) (S : AA) (sb : S b = some (AF a)) :
  BM Try.prog 71 [C3 xs, .one (.fn 72 [.ptr b 1 0 0])] S (BJ (!xs.all (inS a.states))) S := by
 have hi := P1 (p := fun x => !inS a.states x) xs
 rw [List.not_all_eq_any_not]
 generalize (xs.any fun x => !inS a.states x) = bb at hi ⊢
 refine Cc.acS fun hS C hC => ?_
 unfold BU
 repeat' with_reducible first | refine W ?_ | refine Z0 ?_ | ((first | refine Wo fun K hK => ?_ | refine Wp ?_ | refine Wq ?_ | refine Wr ?_); (try simp only [go_sem, fN, seval, eT, iR, dT, dF, nL]); (repeat refine Ai ?_); (try (refine hK _ ?_; clear hK K)); try refine iC ?_)
 refine ⟨_, _, Jp a xs hl (up1 b) (BY b) (upS S) (by rw [CR, sb]; rfl), ?_⟩
 generalize (match xs.findIdx? (fun x => !inS a.states x) with | some i => (i : Int) | none => -1) = q at hi
 repeat' with_reducible first | refine W ?_ | refine Z0 ?_ | ((first | refine Wo fun K hK => ?_ | refine Wp ?_ | refine Wq ?_ | refine Wr ?_); (try simp only [go_sem, fN, seval, eT, iR, hi, dT, dF, nL]); (repeat refine Ai ?_); (try (refine hK _ ?_; clear hK K)); try refine iC ?_)
 refine CS (BJ bb) hS trivial ?_ ?_ fun j hj => ?_
 ·simp [AK, AL, AZ, AB]
 ·rfl
 ·rfl
theorem Mi {S : Int} {m : Mv} (h1 : BB m.name = true) (h2 : ¬ BG m.name = true) (h3 : ¬ 4 < m.frm.length) {s : Int} (hs : s ∈ m.frm ++ [m.to_]) (h : s < 0 ∨ S ≤ s) : m.err S = 10 := by
 rcases List.mem_append.1 hs with hs | hs
 ·exact P2 h1 h2 h3 hs h
 ·rw [List.mem_singleton] at hs
  subst hs
  exact QJ h1 h2 h3 h
theorem Pm {S : Int} {m : Mv} (h1 : BB m.name = true) (h2 : ¬ BG m.name = true) (h3 : ¬ 4 < m.frm.length) (h : (m.frm ++ [m.to_]).all (inS S) = true) : m.err S = 0 := by
 rw [List.all_append, Bool.and_eq_true] at h
 exact Oo h1 h2 h3 h.1 (by simpa using h.2)
theorem Ns (a : Au) (S M : Int) : Ac Try.prog 56 [aAu a, AR S, AR M] (AR (a.may S M)) := by
 by_cases h1 : a.states < 0
 ·have e : a.may S M = 3 := if_pos (Or.inl h1)
  rw [e]
  refine B3.ac fun C hC => ?_
  unfold Bf
  repeat' with_reducible first | refine W ?_ | refine Z0 ?_ | ((first | refine Wo fun K hK => ?_ | refine Wp ?_ | refine Wq ?_ | refine Wr ?_); (try simp only [go_sem, fN, seval, eT, iR, h1, dT, dF, nL]); (repeat refine Ai ?_); (try (refine hK _ ?_; clear hK K)); try refine iC ?_)
  simp only [go_sem, fN, seval, Ae, AS.result, AK, AL, AZ]
 by_cases h2 : S < a.states
 ·have e : a.may S M = 3 := if_pos (Or.inr (Or.inl h2))
  rw [e]
  refine B3.ac fun C hC => ?_
  unfold Bf
  repeat' with_reducible first | refine W ?_ | refine Z0 ?_ | ((first | refine Wo fun K hK => ?_ | refine Wp ?_ | refine Wq ?_ | refine Wr ?_); (try simp only [go_sem, fN, seval, eT, iR, h1, h2, dT, dF, nL]); (repeat refine Ai ?_); (try (refine hK _ ?_; clear hK K)); try refine iC ?_)
  simp only [go_sem, fN, seval, Ae, AS.result, AK, AL, AZ]
 by_cases h3 : M < a.moves.length
 ·have e : a.may S M = 3 := if_pos (Or.inr (Or.inr h3))
  rw [e]
  refine B3.ac fun C hC => ?_
  unfold Bf
  repeat' with_reducible first | refine W ?_ | refine Z0 ?_ | ((first | refine Wo fun K hK => ?_ | refine Wp ?_ | refine Wq ?_ | refine Wr ?_); (try simp only [go_sem, fN, seval, eT, iR, h1, h2, h3, dT, dF, nL]); (repeat refine Ai ?_); (try (refine hK _ ?_; clear hK K)); try refine iC ?_)
  simp only [go_sem, fN, seval, Ae, AS.result, AK, AL, AZ]
 have h0 : ¬ (a.states < 0 ∨ S < a.states ∨ M < a.moves.length) := by omega
 refine B3.ac fun C hC => ?_
 unfold Bf
 refine IWP.learn 0 (by omega) fun hkn => ?_
 obtain ⟨kM, kL, kF⟩ := N3 hkn
 repeat' with_reducible first | refine W ?_ | refine Z0 ?_ | ((first | refine Wo fun K hK => ?_ | refine Wp ?_ | refine Wq ?_ | refine Wr ?_); (try simp only [go_sem, fN, seval, eT, iR, h1, h2, h3, dT, dF, nL]); (repeat refine Ai ?_); (try (refine hK _ ?_; clear hK K)); try refine iC ?_)
 refine IWP.loopD [8, 49] (fun n s => ∃ k, k ≤ a.moves.length ∧ n = a.moves.length - k ∧ s.env 3 = .one (.ptr 3 1 0 0) ∧ s.S 3 = some (AF a) ∧ s.env 28 = .one (.st (.list (a.moves.map Ab))) ∧ s.env 29 = AR a.moves.length ∧ s.env 30 = AR k ∧ s.S 8 = none ∧ s.S 49 = none ∧ BI a.states (a.moves.take k) = 0) a.moves.length ⟨0, Nat.zero_le _, rfl, rfl, rfl, rfl, rfl, rfl, rfl, rfl, rfl⟩ ?_
 rintro n ⟨env, St⟩ ⟨k, hk, rfl, e3, s3, e28, e29, e30, s8, s49, hno⟩
 simp only at e3 s3 e28 e29 e30 s8 s49
 unfold AF at s3
 by_cases hlt : (k : Int) < a.moves.length
 ·obtain ⟨m, hm⟩ := Ap (show k < a.moves.length by omega)
  have hmm := AT hm
  have hst := EE hm hno
  by_cases g1 : BB m.name = true
  case neg =>
   have e := EK h0 hm hno (PW g1) (by decide)
   repeat' (first | (with_reducible first | refine W ?_ | refine Z0 ?_ | ((first | refine Wo fun K hK => ?_ | refine Wp ?_ | refine Wq ?_ | refine Wr ?_); (try simp only [go_sem, fN, seval, eT, iR, e3, s3, e28, e29, e30, s8, s49, hlt, hm, Ab, g1, dT, dF, nL]); (repeat refine Ai ?_); (try (refine hK _ ?_; clear hK K)); try refine iC ?_)) | refine Cg _ (HW m.name) ?_)
   simp only [go_sem, fN, seval, Ae, AS.result, AK, AL, AZ, e]
  case pos =>
  by_cases g2 : BG m.name = true
  ·have e := EK h0 hm hno (P5 g2) (by decide)
   repeat' (first | (with_reducible first | refine W ?_ | refine Z0 ?_ | ((first | refine Wo fun K hK => ?_ | refine Wp ?_ | refine Wq ?_ | refine Wr ?_); (try simp only [go_sem, fN, seval, eT, iR, e3, s3, e28, e29, e30, s8, s49, hlt, hm, Ab, g1, g2, dT, dF, nL]); (repeat refine Ai ?_); (try (refine hK _ ?_; clear hK K)); try refine iC ?_)) | refine Cg _ (HW m.name) ?_ | refine Cg _ (C6 m.name) ?_)
   simp only [go_sem, fN, seval, Ae, AS.result, AK, AL, AZ, e]
  by_cases g3 : (4 : Int) < m.frm.length
  ·have e := EK h0 hm hno (P_ g1 g2 (by omega)) (by decide)
   repeat' (first | (with_reducible first | refine W ?_ | refine Z0 ?_ | ((first | refine Wo fun K hK => ?_ | refine Wp ?_ | refine Wq ?_ | refine Wr ?_); (try simp only [go_sem, fN, seval, eT, iR, e3, s3, e28, e29, e30, s8, s49, hlt, hm, Ab, g1, g2, g3, dT, dF, nL]); (repeat refine Ai ?_); (try (refine hK _ ?_; clear hK K)); try refine iC ?_)) | refine Cg _ (HW m.name) ?_ | refine Cg _ (C6 m.name) ?_)
   simp only [go_sem, fN, seval, Ae, AS.result, AK, AL, AZ, e]
  have g3' : ¬ 4 < m.frm.length := by omega
  have gb : (m.frm.length + 1) * 8 ≤ 140737488355328 := by omega
  repeat' (first | (with_reducible first | refine W ?_ | refine Z0 ?_ | ((first | refine Wo fun K hK => ?_ | refine Wp ?_ | refine Wq ?_ | refine Wr ?_); (try simp only [go_sem, fN, seval, eT, iR, e3, s3, e28, e29, e30, s8, s49, hlt, hm, Ab, g1, g2, g3, dT, dF, nL]); (repeat refine Ai ?_); (try (refine hK _ ?_; clear hK K)); try refine iC ?_)) | refine Cg _ (HW m.name) ?_ | refine Cg _ (C6 m.name) ?_)
  refine ⟨_, _, _, _, Kk m.frm (by omega), by simp [AB, s49], ?_⟩
  repeat' with_reducible first | refine W ?_ | refine Z0 ?_ | ((first | refine Wo fun K hK => ?_ | refine Wp ?_ | refine Wq ?_ | refine Wr ?_); (try simp only [go_sem, fN, seval, eT, iR, e3, s3, e28, e29, e30, s8, s49, gb, dT, dF, nL]); (repeat refine Ai ?_); (try (refine hK _ ?_; clear hK K)); try refine iC ?_)
  have kFm : (m.frm ++ [m.to_]).length = m.frm.length + 1 := by simp
  refine IWP.loop (fun n s => ∃ j, j ≤ m.frm.length + 1 ∧ n = m.frm.length + 1 - j ∧ s.env 3 = .one (.ptr 3 1 0 0) ∧ s.S 3 = some (AF a) ∧ s.env 28 = .one (.st (.list (a.moves.map Ab))) ∧ s.env 29 = AR a.moves.length ∧ s.env 30 = AR k ∧ s.env 53 = .one (.row 49 (m.frm.length + 1)) ∧ s.S 49 = some (.arow 3 1 ((m.frm ++ [m.to_]).map BE)) ∧ s.env 54 = AR ((m.frm.length + 1 : Nat) : Int) ∧ s.env 55 = AR j ∧ ((m.frm ++ [m.to_]).take j).all (inS a.states) = true) (m.frm.length + 1) ⟨0, Nat.zero_le _, rfl, by simpa [AB] using e3, by simpa [AB, AF] using s3, by simpa [AB] using e28, by simpa [AB] using e29, by simpa [AB] using e30, by simp [AB], by simp [AB], by simp [AB], by simp [AB], rfl⟩ ?_
  rintro n ⟨env2, S2⟩ ⟨j, hj, rfl, f3, t3, f28, f29, f30, f53, t49, f54, f55, hall⟩
  simp only at f3 t3 f28 f29 f30 f53 t49 f54 f55
  unfold AF at t3
  by_cases hjl : (j : Int) < ((m.frm.length + 1 : Nat) : Int)
  ·obtain ⟨s, hs⟩ := Ap (show j < (m.frm ++ [m.to_]).length by omega)
   have hst2 := DT hs hall
   generalize hL : m.frm ++ [m.to_] = L at *
   have kL' : ¬ m.frm.length + 1 < L.length := by omega
   by_cases g4 : s < 0
   ·have e := EK h0 hm hno (Mi g1 g2 g3' (by rw [hL]; exact AT hs) (Or.inl g4)) (by decide)
    repeat' with_reducible first | refine W ?_ | refine Z0 ?_ | ((first | refine Wo fun K hK => ?_ | refine Wp ?_ | refine Wq ?_ | refine Wr ?_); (try simp only [go_sem, fN, seval, eT, iR, f3, t3, f28, f29, f30, f53, t49, f54, f55, hjl, hs, g4, kFm, dT, dF, nL]); (repeat refine Ai ?_); (try (refine hK _ ?_; clear hK K)); try refine iC ?_)
    simp only [go_sem, fN, seval, Ae, AS.result, AK, AL, AZ, e]
   by_cases g5 : a.states ≤ s
   ·have e := EK h0 hm hno (Mi g1 g2 g3' (by rw [hL]; exact AT hs) (Or.inr g5)) (by decide)
    repeat' with_reducible first | refine W ?_ | refine Z0 ?_ | ((first | refine Wo fun K hK => ?_ | refine Wp ?_ | refine Wq ?_ | refine Wr ?_); (try simp only [go_sem, fN, seval, eT, iR, f3, t3, f28, f29, f30, f53, t49, f54, f55, hjl, hs, g4, g5, kFm, dT, dF, nL]); (repeat refine Ai ?_); (try (refine hK _ ?_; clear hK K)); try refine iC ?_)
    simp only [go_sem, fN, seval, Ae, AS.result, AK, AL, AZ, e]
   ·repeat' with_reducible first | refine W ?_ | refine Z0 ?_ | ((first | refine Wo fun K hK => ?_ | refine Wp ?_ | refine Wq ?_ | refine Wr ?_); (try simp only [go_sem, fN, seval, eT, iR, f3, t3, f28, f29, f30, f53, t49, f54, f55, hjl, hs, g4, g5, kFm, dT, dF, nL]); (repeat refine Ai ?_); (try (refine hK _ ?_; clear hK K)); try refine iC ?_)
    refine AH ⟨m.frm.length + 1 - (j + 1), by omega, j + 1, by omega, rfl, ?_⟩
    simp only [go_sem, fN, seval, eT, iR, f3, t3, f28, f29, f30, f53, t49, f54, f55]
    exact ⟨rfl, by congr 3, by rw [hst2]; exact PN g4 g5⟩
  ·rw [List.take_of_length_le (by omega)] at hall
   repeat' with_reducible first | refine W ?_ | refine Z0 ?_ | ((first | refine Wo fun K hK => ?_ | refine Wp ?_ | refine Wq ?_ | refine Wr ?_); (try simp only [go_sem, fN, seval, eT, iR, f3, t3, f28, f29, f30, f53, t49, f54, f55, hjl, dT, dF, nL]); (repeat refine Ai ?_); (try (refine hK _ ?_; clear hK K)); try refine iC ?_)
   refine AH ⟨a.moves.length - (k + 1), by omega, k + 1, by omega, rfl, ?_⟩
   simp only [go_sem, fN, seval, AS.drop, As, AC.clears, AC.clear, AC.highs, AC.high, Bool.not_false, Bool.true_and, Bool.and_self, AV.purge, AV.purges, AC.purge, AJ.purge, List.contains_cons, List.contains_nil, Nat.reduceBEq, Bool.or_self, Bool.or_false, Bool.false_or, Bool.or_true, eT, iR, f3, t3, f28, f29, f30, f53, t49, f54, f55]
   exact ⟨rfl, by congr 3, by rw [hst]; exact Pm g1 g2 g3' hall⟩
 ·rw [List.take_of_length_le (by omega)] at hno
  have e := N8 (S := S) (M := M) h0 hno
  repeat' with_reducible first | refine W ?_ | refine Z0 ?_ | ((first | refine Wo fun K hK => ?_ | refine Wp ?_ | refine Wq ?_ | refine Wr ?_); (try simp only [go_sem, fN, seval, eT, iR, e3, s3, e28, e29, e30, hlt, AS.caps, dT, dF, nL]); (repeat refine Ai ?_); (try (refine hK _ ?_; clear hK K)); try refine iC ?_)
  refine ⟨_, _, Gk a a.last (by omega) (up1 3) (BY 3) _ (by rw [CR, s3]; rfl), ?_⟩
  by_cases hall : a.last.all (inS a.states) = true
  ·rw [hall, if_pos rfl] at e
   repeat' with_reducible first | refine W ?_ | refine Z0 ?_ | ((first | refine Wo fun K hK => ?_ | refine Wp ?_ | refine Wq ?_ | refine Wr ?_); (try simp only [go_sem, fN, seval, eT, iR, e3, s3, e28, e29, e30, hall, dT, dF, nL]); (repeat refine Ai ?_); (try (refine hK _ ?_; clear hK K)); try refine iC ?_)
   simp only [go_sem, fN, seval, Ae, AS.result, AK, AL, AZ, e]
  ·have hall' : a.last.all (inS a.states) = false := by simpa using hall
   rw [hall', if_neg (by decide)] at e
   repeat' with_reducible first | refine W ?_ | refine Z0 ?_ | ((first | refine Wo fun K hK => ?_ | refine Wp ?_ | refine Wq ?_ | refine Wr ?_); (try simp only [go_sem, fN, seval, eT, iR, e3, s3, e28, e29, e30, hall', dT, dF, nL]); (repeat refine Ai ?_); (try (refine hK _ ?_; clear hK K)); try refine iC ?_)
   simp only [go_sem, fN, seval, Ae, AS.result, AK, AL, AZ, e]
theorem B8 (a : Au) : Ac Try.prog 34 [aAu a] (AR (a.may 8 40)) := by
 refine H_.ac fun C hC => ?_
 unfold E6
 repeat' (first | (with_reducible first | refine W ?_ | refine Z0 ?_ | ((first | refine Wo fun K hK => ?_ | refine Wp ?_ | refine Wq ?_ | refine Wr ?_); (try simp only [go_sem, fN, seval, eT, iR, dT, dF, nL]); (repeat refine Ai ?_); (try (refine hK _ ?_; clear hK K)); try refine iC ?_)) | refine Cg _ (Ns a 8 40) ?_)
 simp only [go_sem, fN, seval, Ae, AS.result, AK, AL, AZ]
def Br (a b : Au) : Int := if a.may 8 40 = 0 then b.may 8 40 else a.may 8 40
theorem LX (a b : Au) : Ac Try.prog 29 [aAu a, aAu b] (AR (Br a b)) := by
 unfold Br
 by_cases h : a.may 8 40 = 0
 ·rw [if_pos h]
  refine Fh.ac fun C hC => ?_
  unfold Di
  repeat' (first | (with_reducible first | refine W ?_ | refine Z0 ?_ | ((first | refine Wo fun K hK => ?_ | refine Wp ?_ | refine Wq ?_ | refine Wr ?_); (try simp only [go_sem, fN, seval, eT, iR, h, dT, dF, nL]); (repeat refine Ai ?_); (try (refine hK _ ?_; clear hK K)); try refine iC ?_)) | refine Cg _ (B8 a) ?_ | refine Cg _ (B8 b) ?_)
  simp only [go_sem, fN, seval, Ae, AS.result, AK, AL, AZ]
 ·rw [if_neg h]
  refine Fh.ac fun C hC => ?_
  unfold Di
  repeat' (first | (with_reducible first | refine W ?_ | refine Z0 ?_ | ((first | refine Wo fun K hK => ?_ | refine Wp ?_ | refine Wq ?_ | refine Wr ?_); (try simp only [go_sem, fN, seval, eT, iR, h, dT, dF, nL]); (repeat refine Ai ?_); (try (refine hK _ ?_; clear hK K)); try refine iC ?_)) | refine Cg _ (B8 a) ?_)
  simp only [go_sem, fN, seval, Ae, AS.result, AK, AL, AZ]

set_option maxHeartbeats 2000000
theorem Ep {x B : Int} (h1 : 0 ≤ x ∧ x < 8) (h2 : 0 ≤ B ∧ B ≤ 8) : 0 ≤ x * B ∧ x * B ≤ 64 := by
 refine ⟨Int.mul_nonneg h1.1 h2.1, ?_⟩
 have : x * B ≤ 8 * B := Int.mul_le_mul_of_nonneg_right (by omega) h2.1
 omega
theorem Ke {B : Int} {m n : Mv} {ns : List Mv} {k : Nat} (hn : ns[k]? = some n) : Ar B m (ns.take (k + 1)) = Ar B m (ns.take k) ++ (if FX m n = true then [EO B m n] else []) := by
 unfold Ar
 rw [Aj hn, List.filter_append, List.map_append]
 by_cases h : FX m n = true
 ·rw [if_pos h, List.filter_cons_of_pos h]
  rfl
 ·rw [if_neg h, List.filter_cons_of_neg h]
  rfl
theorem Jg {B : Int} {m : Mv} {ms ns : List Mv} {k : Nat} (hm : ms[k]? = some m) : A5 B (ms.take (k + 1)) ns = A5 B (ms.take k) ns ++ Ar B m ns := by
 unfold A5
 rw [Aj hm, List.flatMap_append]
 simp
theorem H2 {B : Int} {s : Int} {ss ts : List Int} {k : Nat} (hs : ss[k]? = some s) : Af B (ss.take (k + 1)) ts = Af B (ss.take k) ts ++ ts.map (fun t => s * B + t) := by
 unfold Af
 rw [Aj hs, List.flatMap_append]
 simp
def AN : AJ := .box 25 [.st (.int .i64 0), .full [], .full []]
theorem QP (a b : Au) (ha : a.may 8 40 = 0) (hb : b.may 8 40 = 0) (hla : a.last.length ≤ 100) (hlb : b.last.length ≤ 100) : Ac Try.prog 20 [aAu a, aAu b] (.tup [aAu (a.both b), AR 0]) := by
 have he : Br a b = 0 := by
  unfold Br
  rw [if_pos ha, hb]
 have ga := Au.may_good ha
 have gb := Au.may_good hb
 obtain ⟨a1, a2, _⟩ := Au.may_ok.1 ha
 obtain ⟨b1, b2, _⟩ := Au.may_ok.1 hb
 have hAB := Ep (x := a.states) (B := b.states)
 have hst : 0 ≤ a.states * b.states ∧ a.states * b.states ≤ 64 := by
  refine ⟨Int.mul_nonneg ga.states gb.states, ?_⟩
  have : a.states * b.states ≤ 8 * b.states := Int.mul_le_mul_of_nonneg_right a1.2.1 gb.states
  omega
 refine JC.ac fun C hC => ?_
 unfold FZ
 repeat' (first | (with_reducible first | refine W ?_ | refine Z0 ?_ | ((first | refine Wo fun K hK => ?_ | refine Wp ?_ | refine Wq ?_ | refine Wr ?_); (try simp only [go_sem, fN, seval, eT, iR, he, dT, dF, nL]); (repeat refine Ai ?_); (try (refine hK _ ?_; clear hK K)); try refine iC ?_)) | refine Cg _ (LX a b) ?_)
 refine IWP.ghost (Aa.ownC 7 1 300 46 3 (xs := ([] : List Mv).map Ab) rfl rfl rfl FF) ?_
 refine IWP.ghost (Aa.ownC 7 2 301 3 1 (xs := ([] : List Int).map BE) rfl rfl rfl De) ?_
 refine IWP.loopD [9] (fun q s => ∃ k, k ≤ a.moves.length ∧ q = a.moves.length - k ∧ s.env 2 = .one (.ptr 2 1 0 0) ∧ s.env 3 = .one (.ptr 3 1 0 0) ∧ s.env 4 = .one (.ptr 4 1 0 0) ∧ s.env 7 = .one (.ptr 7 1 0 0) ∧ s.S 2 = some (AF a) ∧ s.S 3 = some (AF b) ∧ s.S 4 = some AN ∧ s.S 7 = some (.box 25 [.st (.int .i64 (a.states * b.states)), .row 300 (A5 b.states (a.moves.take k) b.moves).length, .row 301 ([] : List Int).length]) ∧ s.S 300 = some (.arow 46 3 ((A5 b.states (a.moves.take k) b.moves).map Ab)) ∧ s.S 301 = some (.arow 3 1 (([] : List Int).map BE)) ∧ s.env 32 = .one (.st (.list (a.moves.map Ab))) ∧ s.env 33 = AR a.moves.length ∧ s.env 34 = AR k ∧ s.S 9 = none ∧ s.S 11 = none ∧ s.S 12 = none ∧ s.S 302 = none) a.moves.length
  ⟨0, Nat.zero_le _, rfl, rfl, rfl, rfl, rfl, rfl, rfl, rfl, rfl, rfl, rfl, rfl, rfl, rfl, rfl, rfl, rfl, rfl⟩ ?_
 rintro q ⟨env, St⟩ ⟨k, hk, rfl, e2, e3, e4, e7, s2, s3, s4, s7, s300, s301, e32, e33, e34, s9, s11, s12, s302⟩
 simp only at e2 e3 e4 e7 s2 s3 s4 s7 s300 s301 e32 e33 e34 s9 s11 s12 s302
 unfold AF at s2 s3
 unfold AN at s4
 by_cases hlt : (k : Int) < a.moves.length
 ·obtain ⟨m, hm⟩ := Ap (show k < a.moves.length by omega)
  have hmm := AT hm
  have hmt := ga.to_ m hmm
  have hml := (Mv.err_ok.1 (a2 m hmm)).2.1
  have hLen : (A5 b.states (a.moves.take k) b.moves).length ≤ 1600 := by
   have h1 := C8 b.states (a.moves.take k) b.moves
   have h2 : (a.moves.take k).length * b.moves.length ≤ 40 * b.moves.length := Nat.mul_le_mul_right _ (by rw [List.length_take]; omega)
   omega
  have hmB := Ep (x := m.to_) (B := b.states) ⟨hmt.1, by omega⟩ ⟨gb.states, b1.2.1⟩
  repeat' with_reducible first | refine W ?_ | refine Z0 ?_ | ((first | refine Wo fun K hK => ?_ | refine Wp ?_ | refine Wq ?_ | refine Wr ?_); (try simp only [go_sem, fN, seval, eT, iR, e2, e3, e4, e7, s2, s3, s4, s7, s300, s301, e32, e33, e34, s9, s11, s12, s302, hlt, hm, Ab, dT, dF, nL]); (repeat refine Ai ?_); (try (refine hK _ ?_; clear hK K)); try refine iC ?_)
  refine IWP.loopD [11, 12, 302] (fun q s => ∃ j, j ≤ b.moves.length ∧ q = b.moves.length - j ∧ s.env 2 = .one (.ptr 2 1 0 0) ∧ s.env 3 = .one (.ptr 3 1 0 0) ∧ s.env 4 = .one (.ptr 4 1 0 0) ∧ s.env 7 = .one (.ptr 7 1 0 0) ∧ s.S 2 = some (AF a) ∧ s.S 3 = some (AF b) ∧ s.S 4 = some AN ∧ s.S 7 = some (.box 25 [.st (.int .i64 (a.states * b.states)), .row 300 (A5 b.states (a.moves.take k) b.moves ++ Ar b.states m (b.moves.take j)).length, .row 301 ([] : List Int).length]) ∧ s.S 300 = some (.arow 46 3 ((A5 b.states (a.moves.take k) b.moves ++ Ar b.states m (b.moves.take j)).map Ab)) ∧ s.S 301 = some (.arow 3 1 (([] : List Int).map BE)) ∧ s.env 32 = .one (.st (.list (a.moves.map Ab))) ∧ s.env 33 = AR a.moves.length ∧ s.env 34 = AR k ∧ s.env 9 = .one (.ptr 9 1 0 0) ∧ s.S 9 = some (.box 46 [.st (.str m.name), .st (.list (m.frm.map BE)), .st (.int .i64 m.to_)]) ∧ s.env 39 = .one (.st (.list (b.moves.map Ab))) ∧ s.env 40 = AR b.moves.length ∧ s.env 41 = AR j ∧ s.S 11 = none ∧ s.S 12 = none ∧ s.S 302 = none) b.moves.length
   ⟨0, Nat.zero_le _, rfl, by simp [AB, AF, AN, Ar, e2, e3, e4, e7, s2, s3, s4, s7, s300, s301, e32, e33, e34, s9, s11, s12, s302], by simp [AB, AF, AN, Ar, e2, e3, e4, e7, s2, s3, s4, s7, s300, s301, e32, e33, e34, s9, s11, s12, s302], by simp [AB, AF, AN, Ar, e2, e3, e4, e7, s2, s3, s4, s7, s300, s301, e32, e33, e34, s9, s11, s12, s302], by simp [AB, AF, AN, Ar, e2, e3, e4, e7, s2, s3, s4, s7, s300, s301, e32, e33, e34, s9, s11, s12, s302], by simp [AB, AF, AN, Ar, e2, e3, e4, e7, s2, s3, s4, s7, s300, s301, e32, e33, e34, s9, s11, s12, s302], by simp [AB, AF, AN, Ar, e2, e3, e4, e7, s2, s3, s4, s7, s300, s301, e32, e33, e34, s9, s11, s12, s302], by simp [AB, AF, AN, Ar, e2, e3, e4, e7, s2, s3, s4, s7, s300, s301, e32, e33, e34, s9, s11, s12, s302], by simp [AB, AF, AN, Ar, e2, e3, e4, e7, s2, s3, s4, s7, s300, s301, e32, e33, e34, s9, s11, s12, s302], by simp [AB, AF, AN, Ar, e2, e3, e4, e7, s2, s3, s4, s7, s300, s301, e32, e33, e34, s9, s11, s12, s302], by simp [AB, AF, AN, Ar, e2, e3, e4, e7, s2, s3, s4, s7, s300, s301, e32, e33, e34, s9, s11, s12, s302], by simp [AB, AF, AN, Ar, e2, e3, e4, e7, s2, s3, s4, s7, s300, s301, e32, e33, e34, s9, s11, s12, s302], by simp [AB, AF, AN, Ar, e2, e3, e4, e7, s2, s3, s4, s7, s300, s301, e32, e33, e34, s9, s11, s12, s302], by simp [AB, AF, AN, Ar, e2, e3, e4, e7, s2, s3, s4, s7, s300, s301, e32, e33, e34, s9, s11, s12, s302], by simp [AB, AF, AN, Ar, e2, e3, e4, e7, s2, s3, s4, s7, s300, s301, e32, e33, e34, s9, s11, s12, s302], by simp [AB, AF, AN, Ar, e2, e3, e4, e7, s2, s3, s4, s7, s300, s301, e32, e33, e34, s9, s11, s12, s302], by simp [AB, AF, AN, Ar, e2, e3, e4, e7, s2, s3, s4, s7, s300, s301, e32, e33, e34, s9, s11, s12, s302], by simp [AB, AF, AN, Ar, e2, e3, e4, e7, s2, s3, s4, s7, s300, s301, e32, e33, e34, s9, s11, s12, s302], by simp [AB, AF, AN, Ar, e2, e3, e4, e7, s2, s3, s4, s7, s300, s301, e32, e33, e34, s9, s11, s12, s302], by simp [AB, AF, AN, Ar, e2, e3, e4, e7, s2, s3, s4, s7, s300, s301, e32, e33, e34, s9, s11, s12, s302], by simp [AB, AF, AN, Ar, e2, e3, e4, e7, s2, s3, s4, s7, s300, s301, e32, e33, e34, s9, s11, s12, s302], by simp [AB, AF, AN, Ar, e2, e3, e4, e7, s2, s3, s4, s7, s300, s301, e32, e33, e34, s9, s11, s12, s302]⟩ ?_
  rintro q ⟨env2, S2⟩ ⟨j, hj, rfl, f2, f3, f4, f7, t2, t3, t4, t7, t300, t301, f32, f33, f34, f9, t9, f39, f40, f41, t11, t12, t302⟩
  simp only at f2 f3 f4 f7 t2 t3 t4 t7 t300 t301 f32 f33 f34 f9 t9 f39 f40 f41 t11 t12 t302
  unfold AF at t2 t3
  unfold AN at t4
  by_cases hjl : (j : Int) < b.moves.length
  ·obtain ⟨n, hn⟩ := Ap (show j < b.moves.length by omega)
   have hnm := AT hn
   have hnt := gb.to_ n hnm
   have hst2 := Ke (B := b.states) (m := m) hn
   have hb1 := E5 b.states m (b.moves.take j)
   rw [List.length_take] at hb1
   by_cases g1 : m.name = n.name
   case neg =>
    rw [if_neg (by simp [FX, g1]), List.append_nil] at hst2
    repeat' with_reducible first | refine W ?_ | refine Z0 ?_ | ((first | refine Wo fun K hK => ?_ | refine Wp ?_ | refine Wq ?_ | refine Wr ?_); (try simp only [go_sem, fN, seval, eT, iR, f2, f3, f4, f7, t2, t3, t4, t7, t300, t301, f32, f33, f34, f9, t9, f39, f40, f41, t11, t12, t302, hjl, hn, Ab, g1, dT, dF, nL]); (repeat refine Ai ?_); (try (refine hK _ ?_; clear hK K)); try refine iC ?_)
    refine AH ⟨b.moves.length - (j + 1), by omega, j + 1, by omega, rfl, ?_⟩
    simp only [go_sem, fN, seval, AS.drop, As, AC.clears, AC.clear, AC.highs, AC.high, Bool.not_false, Bool.true_and, Bool.and_self, AV.purge, AV.purges, AC.purge, AJ.purge, List.contains_cons, List.contains_nil, Nat.reduceBEq, Bool.or_self, Bool.or_false, Bool.false_or, Bool.or_true, eT, iR, f2, f3, f4, f7, t2, t3, t4, t7, t300, t301, f32, f33, f34, f9, t9, f39, f40, f41, t11, t12, t302, AF, AN]
    simp [hst2, g1]
   case pos =>
   by_cases g2 : m.frm.length = n.frm.length
   case neg =>
    rw [if_neg (by simp [FX, g2]), List.append_nil] at hst2
    have g2' : ¬ (m.frm.length : Int) = n.frm.length := by omega
    repeat' with_reducible first | refine W ?_ | refine Z0 ?_ | ((first | refine Wo fun K hK => ?_ | refine Wp ?_ | refine Wq ?_ | refine Wr ?_); (try simp only [go_sem, fN, seval, eT, iR, f2, f3, f4, f7, t2, t3, t4, t7, t300, t301, f32, f33, f34, f9, t9, f39, f40, f41, t11, t12, t302, hjl, hn, Ab, g1, g2', dT, dF, nL]); (repeat refine Ai ?_); (try (refine hK _ ?_; clear hK K)); try refine iC ?_)
    refine AH ⟨b.moves.length - (j + 1), by omega, j + 1, by omega, rfl, ?_⟩
    simp only [go_sem, fN, seval, AS.drop, As, AC.clears, AC.clear, AC.highs, AC.high, Bool.not_false, Bool.true_and, Bool.and_self, AV.purge, AV.purges, AC.purge, AJ.purge, List.contains_cons, List.contains_nil, Nat.reduceBEq, Bool.or_self, Bool.or_false, Bool.false_or, Bool.or_true, eT, iR, f2, f3, f4, f7, t2, t3, t4, t7, t300, t301, f32, f33, f34, f9, t9, f39, f40, f41, t11, t12, t302, AF, AN]
    simp [hst2, g1]
   case pos =>
   rw [if_pos (by simp [FX, g1, g2])] at hst2
   have g2' : (m.frm.length : Int) = n.frm.length := by omega
   repeat' with_reducible first | refine W ?_ | refine Z0 ?_ | ((first | refine Wo fun K hK => ?_ | refine Wp ?_ | refine Wq ?_ | refine Wr ?_); (try simp only [go_sem, fN, seval, eT, iR, f2, f3, f4, f7, t2, t3, t4, t7, t300, t301, f32, f33, f34, f9, t9, f39, f40, f41, t11, t12, t302, hjl, hn, Ab, g1, g2', dT, dF, nL]); (repeat refine Ai ?_); (try (refine hK _ ?_; clear hK K)); try refine iC ?_)
   refine IWP.ghost (Aa.ownC (C := C) 12 1 302 3 1 (xs := ([] : List Int).map BE) (ty := 46) (cs := [.st (.str n.name), .full [], .st (.int .i64 (m.to_ * b.states + n.to_))]) (by simp [AB]) rfl (by simp [AB, t302]) De) ?_
   refine IWP.loop (fun q s => ∃ i, i ≤ m.frm.length ∧ q = m.frm.length - i ∧ s.env 2 = .one (.ptr 2 1 0 0) ∧ s.env 3 = .one (.ptr 3 1 0 0) ∧ s.env 4 = .one (.ptr 4 1 0 0) ∧ s.env 7 = .one (.ptr 7 1 0 0) ∧ s.S 2 = some (AF a) ∧ s.S 3 = some (AF b) ∧ s.S 4 = some AN ∧ s.S 7 = some (.box 25 [.st (.int .i64 (a.states * b.states)), .row 300 (A5 b.states (a.moves.take k) b.moves ++ Ar b.states m (b.moves.take j)).length, .row 301 ([] : List Int).length]) ∧ s.S 300 = some (.arow 46 3 ((A5 b.states (a.moves.take k) b.moves ++ Ar b.states m (b.moves.take j)).map Ab)) ∧ s.S 301 = some (.arow 3 1 (([] : List Int).map BE)) ∧ s.env 32 = .one (.st (.list (a.moves.map Ab))) ∧ s.env 33 = AR a.moves.length ∧ s.env 34 = AR k ∧ s.env 9 = .one (.ptr 9 1 0 0) ∧ s.S 9 = some (.box 46 [.st (.str m.name), .st (.list (m.frm.map BE)), .st (.int .i64 m.to_)]) ∧ s.env 39 = .one (.st (.list (b.moves.map Ab))) ∧ s.env 40 = AR b.moves.length ∧ s.env 41 = AR j ∧ s.env 11 = .one (.ptr 11 1 0 0) ∧ s.S 11 = some (.box 46 [.st (.str n.name), .st (.list (n.frm.map BE)), .st (.int .i64 n.to_)]) ∧ s.env 12 = .one (.ptr 12 1 0 0) ∧ s.S 12 = some (.box 46 [.st (.str m.name), .row 302 i, .st (.int .i64 (m.to_ * b.states + n.to_))]) ∧ s.S 302 = some (.arow 3 1 (((CC b.states m n).take i).map BE)) ∧ s.env 71 = .one (.st (.list (m.frm.map BE))) ∧ s.env 72 = AR m.frm.length ∧ s.env 73 = AR i) m.frm.length
    ⟨0, Nat.zero_le _, rfl, by simp [AS.set, AB, AF, AN, g1, g2, f2, f3, f4, f7, t2, t3, t4, t7, t300, t301, f32, f33, f34, f9, t9, f39, f40, f41, t11, t12, t302], by simp [AS.set, AB, AF, AN, g1, g2, f2, f3, f4, f7, t2, t3, t4, t7, t300, t301, f32, f33, f34, f9, t9, f39, f40, f41, t11, t12, t302], by simp [AS.set, AB, AF, AN, g1, g2, f2, f3, f4, f7, t2, t3, t4, t7, t300, t301, f32, f33, f34, f9, t9, f39, f40, f41, t11, t12, t302], by simp [AS.set, AB, AF, AN, g1, g2, f2, f3, f4, f7, t2, t3, t4, t7, t300, t301, f32, f33, f34, f9, t9, f39, f40, f41, t11, t12, t302], by simp [AS.set, AB, AF, AN, g1, g2, f2, f3, f4, f7, t2, t3, t4, t7, t300, t301, f32, f33, f34, f9, t9, f39, f40, f41, t11, t12, t302], by simp [AS.set, AB, AF, AN, g1, g2, f2, f3, f4, f7, t2, t3, t4, t7, t300, t301, f32, f33, f34, f9, t9, f39, f40, f41, t11, t12, t302], by simp [AS.set, AB, AF, AN, g1, g2, f2, f3, f4, f7, t2, t3, t4, t7, t300, t301, f32, f33, f34, f9, t9, f39, f40, f41, t11, t12, t302], by simp [AS.set, AB, AF, AN, g1, g2, f2, f3, f4, f7, t2, t3, t4, t7, t300, t301, f32, f33, f34, f9, t9, f39, f40, f41, t11, t12, t302], by simp [AS.set, AB, AF, AN, g1, g2, f2, f3, f4, f7, t2, t3, t4, t7, t300, t301, f32, f33, f34, f9, t9, f39, f40, f41, t11, t12, t302], by simp [AS.set, AB, AF, AN, g1, g2, f2, f3, f4, f7, t2, t3, t4, t7, t300, t301, f32, f33, f34, f9, t9, f39, f40, f41, t11, t12, t302], by simp [AS.set, AB, AF, AN, g1, g2, f2, f3, f4, f7, t2, t3, t4, t7, t300, t301, f32, f33, f34, f9, t9, f39, f40, f41, t11, t12, t302], by simp [AS.set, AB, AF, AN, g1, g2, f2, f3, f4, f7, t2, t3, t4, t7, t300, t301, f32, f33, f34, f9, t9, f39, f40, f41, t11, t12, t302], by simp [AS.set, AB, AF, AN, g1, g2, f2, f3, f4, f7, t2, t3, t4, t7, t300, t301, f32, f33, f34, f9, t9, f39, f40, f41, t11, t12, t302], by simp [AS.set, AB, AF, AN, g1, g2, f2, f3, f4, f7, t2, t3, t4, t7, t300, t301, f32, f33, f34, f9, t9, f39, f40, f41, t11, t12, t302], by simp [AS.set, AB, AF, AN, g1, g2, f2, f3, f4, f7, t2, t3, t4, t7, t300, t301, f32, f33, f34, f9, t9, f39, f40, f41, t11, t12, t302], by simp [AS.set, AB, AF, AN, g1, g2, f2, f3, f4, f7, t2, t3, t4, t7, t300, t301, f32, f33, f34, f9, t9, f39, f40, f41, t11, t12, t302], by simp [AS.set, AB, AF, AN, g1, g2, f2, f3, f4, f7, t2, t3, t4, t7, t300, t301, f32, f33, f34, f9, t9, f39, f40, f41, t11, t12, t302], by simp [AS.set, AB, AF, AN, g1, g2, f2, f3, f4, f7, t2, t3, t4, t7, t300, t301, f32, f33, f34, f9, t9, f39, f40, f41, t11, t12, t302], by simp [AS.set, AB, AF, AN, g1, g2, f2, f3, f4, f7, t2, t3, t4, t7, t300, t301, f32, f33, f34, f9, t9, f39, f40, f41, t11, t12, t302], by simp [AS.set, AB, AF, AN, g1, g2, f2, f3, f4, f7, t2, t3, t4, t7, t300, t301, f32, f33, f34, f9, t9, f39, f40, f41, t11, t12, t302], by simp [AS.set, AB, AF, AN, g1, g2, f2, f3, f4, f7, t2, t3, t4, t7, t300, t301, f32, f33, f34, f9, t9, f39, f40, f41, t11, t12, t302], by simp [AS.set, AB, AF, AN, g1, g2, f2, f3, f4, f7, t2, t3, t4, t7, t300, t301, f32, f33, f34, f9, t9, f39, f40, f41, t11, t12, t302], by simp [AS.set, AB, AF, AN, g1, g2, f2, f3, f4, f7, t2, t3, t4, t7, t300, t301, f32, f33, f34, f9, t9, f39, f40, f41, t11, t12, t302], by simp [AS.set, AB, AF, AN, g1, g2, f2, f3, f4, f7, t2, t3, t4, t7, t300, t301, f32, f33, f34, f9, t9, f39, f40, f41, t11, t12, t302], by simp [AS.set, AB, AF, AN, g1, g2, f2, f3, f4, f7, t2, t3, t4, t7, t300, t301, f32, f33, f34, f9, t9, f39, f40, f41, t11, t12, t302], by simp [AS.set, AB, AF, AN, g1, g2, f2, f3, f4, f7, t2, t3, t4, t7, t300, t301, f32, f33, f34, f9, t9, f39, f40, f41, t11, t12, t302]⟩ ?_
   rintro q ⟨env3, S3⟩ ⟨i, hi, rfl, u2, u3, u4, u7, v2, v3, v4, v7, v300, v301, u32, u33, u34, u9, v9, u39, u40, u41, u11, v11, u12, v12, v302, u71, u72, u73⟩
   simp only at u2 u3 u4 u7 v2 v3 v4 v7 v300 v301 u32 u33 u34 u9 v9 u39 u40 u41 u11 v11 u12 v12 v302 u71 u72 u73
   unfold AF at v2 v3
   unfold AN at v4
   have hzl : (CC b.states m n).length = m.frm.length := by
    unfold CC
    rw [List.length_zipWith]
    omega
   have htk : ((CC b.states m n).take i).length = i := by
    rw [List.length_take]
    omega
   by_cases hil : (i : Int) < m.frm.length
   ·obtain ⟨x, hx⟩ := Ap (show i < m.frm.length by omega)
    obtain ⟨y, hy⟩ := Ap (show i < n.frm.length by omega)
    have hz : (CC b.states m n)[i]? = some (x * b.states + y) := by
     unfold CC
     rw [List.getElem?_zipWith, hx, hy]
    have qx := ga.frm m hmm x (AT hx)
    have qy := gb.frm n hnm y (AT hy)
    have hxB := Ep (x := x) (B := b.states) ⟨qx.1, by omega⟩ ⟨gb.states, b1.2.1⟩
    repeat' with_reducible first | refine W ?_ | refine Z0 ?_ | ((first | refine Wo fun K hK => ?_ | refine Wp ?_ | refine Wq ?_ | refine Wr ?_); (try simp only [go_sem, fN, seval, eT, iR, u2, u3, u4, u7, v2, v3, v4, v7, v300, v301, u32, u33, u34, u9, v9, u39, u40, u41, u11, v11, u12, v12, v302, u71, u72, u73, hil, hx, hy, htk, dT, dF, nL]); (repeat refine Ai ?_); (try (refine hK _ ?_; clear hK K)); try refine iC ?_)
    refine AH ⟨m.frm.length - (i + 1), by omega, i + 1, by omega, rfl, ?_⟩
    simp only [go_sem, fN, seval, eT, iR, u2, u3, u4, u7, v2, v3, v4, v7, v300, v301, u32, u33, u34, u9, v9, u39, u40, u41, u11, v11, u12, v12, v302, u71, u72, u73, AF, AN, htk]
    rw [Aj hz]
    simp
   ·have hie : i = m.frm.length := by omega
    subst hie
    rw [List.take_of_length_le (by omega)] at v302
    repeat' with_reducible first | refine W ?_ | refine Z0 ?_ | ((first | refine Wo fun K hK => ?_ | refine Wp ?_ | refine Wq ?_ | refine Wr ?_); (try simp only [go_sem, fN, seval, eT, iR, u2, u3, u4, u7, v2, v3, v4, v7, v300, v301, u32, u33, u34, u9, v9, u39, u40, u41, u11, v11, u12, v12, v302, u71, u72, u73, hil, hzl, dT, dF, nL]); (repeat refine Ai ?_); (try (refine hK _ ?_; clear hK K)); try refine iC ?_)
    refine AH ⟨b.moves.length - (j + 1), by omega, j + 1, by omega, rfl, ?_⟩
    simp only [go_sem, fN, seval, AS.drop, As, AC.clears, AC.clear, AC.highs, AC.high, Bool.not_false, Bool.true_and, Bool.and_self, AV.purge, AV.purges, AC.purge, AJ.purge, List.contains_cons, List.contains_nil, Nat.reduceBEq, Bool.or_self, Bool.or_false, Bool.false_or, Bool.or_true, eT, iR, u2, u3, u4, u7, v2, v3, v4, v7, v300, v301, u32, u33, u34, u9, v9, u39, u40, u41, u11, v11, u12, v12, v302, u71, u72, u73, AF, AN]
    simp [hst2, g1, EO, Ab, Nat.add_assoc]
  ·rw [List.take_of_length_le (l := b.moves) (i := j) (by omega)] at t7 t300
   have hst := Jg (B := b.states) (ns := b.moves) hm
   repeat' with_reducible first | refine W ?_ | refine Z0 ?_ | ((first | refine Wo fun K hK => ?_ | refine Wp ?_ | refine Wq ?_ | refine Wr ?_); (try simp only [go_sem, fN, seval, eT, iR, f2, f3, f4, f7, t2, t3, t4, t7, t300, t301, f32, f33, f34, f9, t9, f39, f40, f41, t11, t12, t302, hjl, dT, dF, nL]); (repeat refine Ai ?_); (try (refine hK _ ?_; clear hK K)); try refine iC ?_)
   refine AH ⟨a.moves.length - (k + 1), by omega, k + 1, by omega, rfl, ?_⟩
   simp only [go_sem, fN, seval, AS.drop, As, AC.clears, AC.clear, AC.highs, AC.high, Bool.not_false, Bool.true_and, Bool.and_self, AV.purge, AV.purges, AC.purge, AJ.purge, List.contains_cons, List.contains_nil, Nat.reduceBEq, Bool.or_self, Bool.or_false, Bool.false_or, Bool.or_true, eT, iR, f2, f3, f4, f7, t2, t3, t4, t7, t300, t301, f32, f33, f34, f9, t9, f39, f40, f41, t11, t12, t302, AF, AN]
   simp [hst]
 ·rw [List.take_of_length_le (l := a.moves) (i := k) (by omega)] at s7 s300
  repeat' with_reducible first | refine W ?_ | refine Z0 ?_ | ((first | refine Wo fun K hK => ?_ | refine Wp ?_ | refine Wq ?_ | refine Wr ?_); (try simp only [go_sem, fN, seval, eT, iR, e2, e3, e4, e7, s2, s3, s4, s7, s300, s301, e32, e33, e34, s9, s11, s12, s302, hlt, dT, dF, nL]); (repeat refine Ai ?_); (try (refine hK _ ?_; clear hK K)); try refine iC ?_)
  refine IWP.loop (fun q s => ∃ k, k ≤ a.last.length ∧ q = a.last.length - k ∧ s.env 2 = .one (.ptr 2 1 0 0) ∧ s.env 3 = .one (.ptr 3 1 0 0) ∧ s.env 4 = .one (.ptr 4 1 0 0) ∧ s.env 7 = .one (.ptr 7 1 0 0) ∧ s.S 2 = some (AF a) ∧ s.S 3 = some (AF b) ∧ s.S 4 = some AN ∧ s.S 7 = some (.box 25 [.st (.int .i64 (a.states * b.states)), .row 300 (A5 b.states a.moves b.moves).length, .row 301 (Af b.states (a.last.take k) b.last).length]) ∧ s.S 300 = some (.arow 46 3 ((A5 b.states a.moves b.moves).map Ab)) ∧ s.S 301 = some (.arow 3 1 ((Af b.states (a.last.take k) b.last).map BE)) ∧ s.env 105 = .one (.st (.list (a.last.map BE))) ∧ s.env 106 = AR a.last.length ∧ s.env 107 = AR k) a.last.length
   ⟨0, Nat.zero_le _, rfl, by simp [AS.set, AB, AF, AN, Af, e2, e3, e4, e7, s2, s3, s4, s7, s300, s301, e32, e33, e34, s9, s11, s12, s302], by simp [AS.set, AB, AF, AN, Af, e2, e3, e4, e7, s2, s3, s4, s7, s300, s301, e32, e33, e34, s9, s11, s12, s302], by simp [AS.set, AB, AF, AN, Af, e2, e3, e4, e7, s2, s3, s4, s7, s300, s301, e32, e33, e34, s9, s11, s12, s302], by simp [AS.set, AB, AF, AN, Af, e2, e3, e4, e7, s2, s3, s4, s7, s300, s301, e32, e33, e34, s9, s11, s12, s302], by simp [AS.set, AB, AF, AN, Af, e2, e3, e4, e7, s2, s3, s4, s7, s300, s301, e32, e33, e34, s9, s11, s12, s302], by simp [AS.set, AB, AF, AN, Af, e2, e3, e4, e7, s2, s3, s4, s7, s300, s301, e32, e33, e34, s9, s11, s12, s302], by simp [AS.set, AB, AF, AN, Af, e2, e3, e4, e7, s2, s3, s4, s7, s300, s301, e32, e33, e34, s9, s11, s12, s302], by simp [AS.set, AB, AF, AN, Af, e2, e3, e4, e7, s2, s3, s4, s7, s300, s301, e32, e33, e34, s9, s11, s12, s302], by simp [AS.set, AB, AF, AN, Af, e2, e3, e4, e7, s2, s3, s4, s7, s300, s301, e32, e33, e34, s9, s11, s12, s302], by simp [AS.set, AB, AF, AN, Af, e2, e3, e4, e7, s2, s3, s4, s7, s300, s301, e32, e33, e34, s9, s11, s12, s302], by simp [AS.set, AB, AF, AN, Af, e2, e3, e4, e7, s2, s3, s4, s7, s300, s301, e32, e33, e34, s9, s11, s12, s302], by simp [AS.set, AB, AF, AN, Af, e2, e3, e4, e7, s2, s3, s4, s7, s300, s301, e32, e33, e34, s9, s11, s12, s302], by simp [AS.set, AB, AF, AN, Af, e2, e3, e4, e7, s2, s3, s4, s7, s300, s301, e32, e33, e34, s9, s11, s12, s302]⟩ ?_
  rintro q ⟨env2, S2⟩ ⟨k, hk', rfl, f2, f3, f4, f7, t2, t3, t4, t7, t300, t301, f105, f106, f107⟩
  simp only at f2 f3 f4 f7 t2 t3 t4 t7 t300 t301 f105 f106 f107
  unfold AF at t2 t3
  unfold AN at t4
  by_cases hkl : (k : Int) < a.last.length
  ·obtain ⟨x, hx⟩ := Ap (show k < a.last.length by omega)
   have qx := ga.last x (AT hx)
   have hxB := Ep (x := x) (B := b.states) ⟨qx.1, by omega⟩ ⟨gb.states, b1.2.1⟩
   have hLl := Cj b.states (a.last.take k) b.last
   have hLm : (a.last.take k).length * b.last.length ≤ 100 * b.last.length := Nat.mul_le_mul_right _ (by rw [List.length_take]; omega)
   have hst2 := H2 (B := b.states) (ts := b.last) hx
   repeat' with_reducible first | refine W ?_ | refine Z0 ?_ | ((first | refine Wo fun K hK => ?_ | refine Wp ?_ | refine Wq ?_ | refine Wr ?_); (try simp only [go_sem, fN, seval, eT, iR, f2, f3, f4, f7, t2, t3, t4, t7, t300, t301, f105, f106, f107, hkl, hx, dT, dF, nL]); (repeat refine Ai ?_); (try (refine hK _ ?_; clear hK K)); try refine iC ?_)
   refine IWP.loop (fun q s => ∃ j, j ≤ b.last.length ∧ q = b.last.length - j ∧ s.env 2 = .one (.ptr 2 1 0 0) ∧ s.env 3 = .one (.ptr 3 1 0 0) ∧ s.env 4 = .one (.ptr 4 1 0 0) ∧ s.env 7 = .one (.ptr 7 1 0 0) ∧ s.S 2 = some (AF a) ∧ s.S 3 = some (AF b) ∧ s.S 4 = some AN ∧ s.S 7 = some (.box 25 [.st (.int .i64 (a.states * b.states)), .row 300 (A5 b.states a.moves b.moves).length, .row 301 (Af b.states (a.last.take k) b.last ++ (b.last.take j).map (fun t => x * b.states + t)).length]) ∧ s.S 300 = some (.arow 46 3 ((A5 b.states a.moves b.moves).map Ab)) ∧ s.S 301 = some (.arow 3 1 ((Af b.states (a.last.take k) b.last ++ (b.last.take j).map (fun t => x * b.states + t)).map BE)) ∧ s.env 105 = .one (.st (.list (a.last.map BE))) ∧ s.env 106 = AR a.last.length ∧ s.env 107 = AR k ∧ s.env 15 = AR x ∧ s.env 112 = .one (.st (.list (b.last.map BE))) ∧ s.env 113 = AR b.last.length ∧ s.env 114 = AR j) b.last.length
    ⟨0, Nat.zero_le _, rfl, by simp [AS.set, AB, AF, AN, f2, f3, f4, f7, t2, t3, t4, t7, t300, t301, f105, f106, f107], by simp [AS.set, AB, AF, AN, f2, f3, f4, f7, t2, t3, t4, t7, t300, t301, f105, f106, f107], by simp [AS.set, AB, AF, AN, f2, f3, f4, f7, t2, t3, t4, t7, t300, t301, f105, f106, f107], by simp [AS.set, AB, AF, AN, f2, f3, f4, f7, t2, t3, t4, t7, t300, t301, f105, f106, f107], by simp [AS.set, AB, AF, AN, f2, f3, f4, f7, t2, t3, t4, t7, t300, t301, f105, f106, f107], by simp [AS.set, AB, AF, AN, f2, f3, f4, f7, t2, t3, t4, t7, t300, t301, f105, f106, f107], by simp [AS.set, AB, AF, AN, f2, f3, f4, f7, t2, t3, t4, t7, t300, t301, f105, f106, f107], by simp [AS.set, AB, AF, AN, f2, f3, f4, f7, t2, t3, t4, t7, t300, t301, f105, f106, f107], by simp [AS.set, AB, AF, AN, f2, f3, f4, f7, t2, t3, t4, t7, t300, t301, f105, f106, f107], by simp [AS.set, AB, AF, AN, f2, f3, f4, f7, t2, t3, t4, t7, t300, t301, f105, f106, f107], by simp [AS.set, AB, AF, AN, f2, f3, f4, f7, t2, t3, t4, t7, t300, t301, f105, f106, f107], by simp [AS.set, AB, AF, AN, f2, f3, f4, f7, t2, t3, t4, t7, t300, t301, f105, f106, f107], by simp [AS.set, AB, AF, AN, f2, f3, f4, f7, t2, t3, t4, t7, t300, t301, f105, f106, f107], by simp [AS.set, AB, AF, AN, f2, f3, f4, f7, t2, t3, t4, t7, t300, t301, f105, f106, f107], by simp [AS.set, AB, AF, AN, f2, f3, f4, f7, t2, t3, t4, t7, t300, t301, f105, f106, f107], by simp [AS.set, AB, AF, AN, f2, f3, f4, f7, t2, t3, t4, t7, t300, t301, f105, f106, f107], by simp [AS.set, AB, AF, AN, f2, f3, f4, f7, t2, t3, t4, t7, t300, t301, f105, f106, f107]⟩ ?_
   rintro q ⟨env3, S3⟩ ⟨j, hj', rfl, u2, u3, u4, u7, v2, v3, v4, v7, v300, v301, u105, u106, u107, u15, u112, u113, u114⟩
   simp only at u2 u3 u4 u7 v2 v3 v4 v7 v300 v301 u105 u106 u107 u15 u112 u113 u114
   unfold AF at v2 v3
   unfold AN at v4
   by_cases hjl : (j : Int) < b.last.length
   ·obtain ⟨y, hy⟩ := Ap (show j < b.last.length by omega)
    have qy := gb.last y (AT hy)
    have hjm : ((b.last.take j).map (fun t => x * b.states + t)).length = j := by
     rw [List.length_map, List.length_take]
     omega
    repeat' with_reducible first | refine W ?_ | refine Z0 ?_ | ((first | refine Wo fun K hK => ?_ | refine Wp ?_ | refine Wq ?_ | refine Wr ?_); (try simp only [go_sem, fN, seval, eT, iR, u2, u3, u4, u7, v2, v3, v4, v7, v300, v301, u105, u106, u107, u15, u112, u113, u114, hjl, hy, hjm, dT, dF, nL]); (repeat refine Ai ?_); (try (refine hK _ ?_; clear hK K)); try refine iC ?_)
    refine AH ⟨b.last.length - (j + 1), by omega, j + 1, by omega, rfl, ?_⟩
    simp only [go_sem, fN, seval, eT, iR, u2, u3, u4, u7, v2, v3, v4, v7, v300, v301, u105, u106, u107, u15, u112, u113, u114, AF, AN]
    rw [Aj hy]
    simp [Nat.add_assoc]
    omega
   ·rw [List.take_of_length_le (l := b.last) (i := j) (by omega)] at v7 v301
    repeat' with_reducible first | refine W ?_ | refine Z0 ?_ | ((first | refine Wo fun K hK => ?_ | refine Wp ?_ | refine Wq ?_ | refine Wr ?_); (try simp only [go_sem, fN, seval, eT, iR, u2, u3, u4, u7, v2, v3, v4, v7, v300, v301, u105, u106, u107, u15, u112, u113, u114, hjl, dT, dF, nL]); (repeat refine Ai ?_); (try (refine hK _ ?_; clear hK K)); try refine iC ?_)
    refine AH ⟨a.last.length - (k + 1), by omega, k + 1, by omega, rfl, ?_⟩
    simp only [go_sem, fN, seval, eT, iR, u2, u3, u4, u7, v2, v3, v4, v7, v300, v301, u105, u106, u107, u15, u112, u113, u114, AF, AN]
    simp [hst2]
  ·rw [List.take_of_length_le (l := a.last) (i := k) (by omega)] at t7 t301
   repeat' with_reducible first | refine W ?_ | refine Z0 ?_ | ((first | refine Wo fun K hK => ?_ | refine Wp ?_ | refine Wq ?_ | refine Wr ?_); (try simp only [go_sem, fN, seval, eT, iR, f2, f3, f4, f7, t2, t3, t4, t7, t300, t301, f105, f106, f107, hkl, dT, dF, nL]); (repeat refine Ai ?_); (try (refine hK _ ?_; clear hK K)); try refine iC ?_)
   simp only [go_sem, fN, seval, Ae, AS.result, AK, AL, AZ, f2, f3, f4, f7, t2, t3, t4, t7, t300, t301, f105, f106, f107]
   simp [Au.both]

theorem Oi (a b : Au) (ha : a.may 8 40 = 0) (hb : b.may 8 40 = 0) (hla : a.last.length ≤ 100) (hlb : b.last.length ≤ 100) : Ac Try.prog 21 [aAu a, aAu b] (.tup [aAu (a.either b), AR 0]) := by
 have he : Br a b = 0 := by
  unfold Br
  rw [if_pos ha, hb]
 have ga := Au.may_good ha
 have gb := Au.may_good hb
 obtain ⟨a1, a2, _⟩ := Au.may_ok.1 ha
 obtain ⟨b1, b2, _⟩ := Au.may_ok.1 hb
 refine HP.ac fun C hC => ?_
 unfold EA
 repeat' (first | (with_reducible first | refine W ?_ | refine Z0 ?_ | ((first | refine Wo fun K hK => ?_ | refine Wp ?_ | refine Wq ?_ | refine Wr ?_); (try simp only [go_sem, fN, seval, eT, iR, he, dT, dF, nL]); (repeat refine Ai ?_); (try (refine hK _ ?_; clear hK K)); try refine iC ?_)) | refine Cg _ (LX a b) ?_)
 refine ⟨_, _, _, _, Kk a.last (by omega), by simp [AB, noS], ?_⟩
 repeat' with_reducible first | refine W ?_ | refine Z0 ?_ | ((first | refine Wo fun K hK => ?_ | refine Wp ?_ | refine Wq ?_ | refine Wr ?_); (try simp only [go_sem, fN, seval, eT, iR, dT, dF, nL]); (repeat refine Ai ?_); (try (refine hK _ ?_; clear hK K)); try refine iC ?_)
 refine IWP.ghost (Aa.ownC (C := C) 7 1 300 46 3 (xs := ([] : List Mv).map Ab) (ty := 25) (cs := [.st (.int .i64 (a.states + b.states)), .full [], .row 31 a.last.length]) (by simp [AS.set, AB]) rfl (by simp [AS.set, AB, noS]) FF) ?_
 refine IWP.loopD [9] (fun q s => ∃ k, k ≤ a.moves.length ∧ q = a.moves.length - k ∧ s.env 2 = .one (.ptr 2 1 0 0) ∧ s.env 3 = .one (.ptr 3 1 0 0) ∧ s.env 4 = .one (.ptr 4 1 0 0) ∧ s.env 7 = .one (.ptr 7 1 0 0) ∧ s.S 2 = some (AF a) ∧ s.S 3 = some (AF b) ∧ s.S 4 = some AN ∧ s.S 7 = some (.box 25 [.st (.int .i64 (a.states + b.states)), .row 300 (a.moves.take k).length, .row 31 (a.last).length]) ∧ s.S 300 = some (.arow 46 3 ((a.moves.take k).map Ab)) ∧ s.S 31 = some (.arow 3 1 ((a.last).map BE)) ∧ s.env 34 = .one (.st (.list (a.moves.map Ab))) ∧ s.env 35 = AR a.moves.length ∧ s.env 36 = AR k ∧ s.S 9 = none ∧ s.S 11 = none ∧ s.S 12 = none ∧ s.S 302 = none) a.moves.length
  ⟨0, Nat.zero_le _, rfl, by simp [AS.set, AB, AF, AN, noS], by simp [AS.set, AB, AF, AN, noS], by simp [AS.set, AB, AF, AN, noS], by simp [AS.set, AB, AF, AN, noS], by simp [AS.set, AB, AF, AN, noS], by simp [AS.set, AB, AF, AN, noS], by simp [AS.set, AB, AF, AN, noS], by simp [AS.set, AB, AF, AN, noS], by simp [AS.set, AB, AF, AN, noS], by simp [AS.set, AB, AF, AN, noS], by simp [AS.set, AB, AF, AN, noS], by simp [AS.set, AB, AF, AN, noS], by simp [AS.set, AB, AF, AN, noS], by simp [AS.set, AB, AF, AN, noS], by simp [AS.set, AB, AF, AN, noS], by simp [AS.set, AB, AF, AN, noS], by simp [AS.set, AB, AF, AN, noS]⟩ ?_
 rintro q ⟨env, St⟩ ⟨k, hk, rfl, e2, e3, e4, e7, s2, s3, s4, s7, s300, s31, e34, e35, e36, s9, s11, s12, s302⟩
 simp only at e2 e3 e4 e7 s2 s3 s4 s7 s300 s31 e34 e35 e36 s9 s11 s12 s302
 unfold AF at s2 s3
 unfold AN at s4
 by_cases hlt : (k : Int) < a.moves.length
 ·obtain ⟨m, hm⟩ := Ap (show k < a.moves.length by omega)
  have hmm := AT hm
  have hml := (Mv.err_ok.1 (a2 m hmm)).2.1
  have hkl : (a.moves.take k).length = k := by
   rw [List.length_take]
   omega
  repeat' (first | (with_reducible first | refine W ?_ | refine Z0 ?_ | ((first | refine Wo fun K hK => ?_ | refine Wp ?_ | refine Wq ?_ | refine Wr ?_); (try simp only [go_sem, fN, seval, eT, iR, e2, e3, e4, e7, s2, s3, s4, s7, s300, s31, e34, e35, e36, s9, s11, s12, s302, hlt, hm, Ab, hkl, dT, dF, nL]); (repeat refine Ai ?_); (try (refine hK _ ?_; clear hK K)); try refine iC ?_)) | refine Cg _ (O6 m.frm (by omega)) ?_)
  refine AH ⟨a.moves.length - (k + 1), by omega, k + 1, by omega, rfl, ?_⟩
  simp only [go_sem, fN, seval, AS.drop, As, AC.clears, AC.clear, AC.highs, AC.high, Bool.not_false, Bool.true_and, Bool.and_self, AV.purge, AV.purges, AC.purge, AJ.purge, List.contains_cons, List.contains_nil, Nat.reduceBEq, Bool.or_self, Bool.or_false, Bool.false_or, Bool.or_true, eT, iR, e2, e3, e4, e7, s2, s3, s4, s7, s300, s31, e34, e35, e36, s9, s11, s12, s302, AF, AN]
  rw [Aj hm]
  simp [Ab]
  try omega
 ·rw [List.take_of_length_le (l := a.moves) (i := k) (by omega)] at s7 s300
  repeat' with_reducible first | refine W ?_ | refine Z0 ?_ | ((first | refine Wo fun K hK => ?_ | refine Wp ?_ | refine Wq ?_ | refine Wr ?_); (try simp only [go_sem, fN, seval, eT, iR, e2, e3, e4, e7, s2, s3, s4, s7, s300, s31, e34, e35, e36, s9, s11, s12, s302, hlt, dT, dF, nL]); (repeat refine Ai ?_); (try (refine hK _ ?_; clear hK K)); try refine iC ?_)
  refine IWP.loopD [11, 12, 302] (fun q s => ∃ k, k ≤ b.moves.length ∧ q = b.moves.length - k ∧ s.env 2 = .one (.ptr 2 1 0 0) ∧ s.env 3 = .one (.ptr 3 1 0 0) ∧ s.env 4 = .one (.ptr 4 1 0 0) ∧ s.env 7 = .one (.ptr 7 1 0 0) ∧ s.S 2 = some (AF a) ∧ s.S 3 = some (AF b) ∧ s.S 4 = some AN ∧ s.S 7 = some (.box 25 [.st (.int .i64 (a.states + b.states)), .row 300 (a.moves ++ (b.moves.take k).map (Bo a.states)).length, .row 31 (a.last).length]) ∧ s.S 300 = some (.arow 46 3 ((a.moves ++ (b.moves.take k).map (Bo a.states)).map Ab)) ∧ s.S 31 = some (.arow 3 1 ((a.last).map BE)) ∧ s.env 55 = .one (.st (.list (b.moves.map Ab))) ∧ s.env 56 = AR b.moves.length ∧ s.env 57 = AR k ∧ s.S 11 = none ∧ s.S 12 = none ∧ s.S 302 = none) b.moves.length
   ⟨0, Nat.zero_le _, rfl, by simp [AS.set, AB, AF, AN, e2, e3, e4, e7, s2, s3, s4, s7, s300, s31, e34, e35, e36, s9, s11, s12, s302], by simp [AS.set, AB, AF, AN, e2, e3, e4, e7, s2, s3, s4, s7, s300, s31, e34, e35, e36, s9, s11, s12, s302], by simp [AS.set, AB, AF, AN, e2, e3, e4, e7, s2, s3, s4, s7, s300, s31, e34, e35, e36, s9, s11, s12, s302], by simp [AS.set, AB, AF, AN, e2, e3, e4, e7, s2, s3, s4, s7, s300, s31, e34, e35, e36, s9, s11, s12, s302], by simp [AS.set, AB, AF, AN, e2, e3, e4, e7, s2, s3, s4, s7, s300, s31, e34, e35, e36, s9, s11, s12, s302], by simp [AS.set, AB, AF, AN, e2, e3, e4, e7, s2, s3, s4, s7, s300, s31, e34, e35, e36, s9, s11, s12, s302], by simp [AS.set, AB, AF, AN, e2, e3, e4, e7, s2, s3, s4, s7, s300, s31, e34, e35, e36, s9, s11, s12, s302], by simp [AS.set, AB, AF, AN, e2, e3, e4, e7, s2, s3, s4, s7, s300, s31, e34, e35, e36, s9, s11, s12, s302], by simp [AS.set, AB, AF, AN, e2, e3, e4, e7, s2, s3, s4, s7, s300, s31, e34, e35, e36, s9, s11, s12, s302], by simp [AS.set, AB, AF, AN, e2, e3, e4, e7, s2, s3, s4, s7, s300, s31, e34, e35, e36, s9, s11, s12, s302], by simp [AS.set, AB, AF, AN, e2, e3, e4, e7, s2, s3, s4, s7, s300, s31, e34, e35, e36, s9, s11, s12, s302], by simp [AS.set, AB, AF, AN, e2, e3, e4, e7, s2, s3, s4, s7, s300, s31, e34, e35, e36, s9, s11, s12, s302], by simp [AS.set, AB, AF, AN, e2, e3, e4, e7, s2, s3, s4, s7, s300, s31, e34, e35, e36, s9, s11, s12, s302], by simp [AS.set, AB, AF, AN, e2, e3, e4, e7, s2, s3, s4, s7, s300, s31, e34, e35, e36, s9, s11, s12, s302], by simp [AS.set, AB, AF, AN, e2, e3, e4, e7, s2, s3, s4, s7, s300, s31, e34, e35, e36, s9, s11, s12, s302], by simp [AS.set, AB, AF, AN, e2, e3, e4, e7, s2, s3, s4, s7, s300, s31, e34, e35, e36, s9, s11, s12, s302]⟩ ?_
  rintro q ⟨env2, S2⟩ ⟨k, hk', rfl, f2, f3, f4, f7, t2, t3, t4, t7, t300, t31, f55, f56, f57, t11, t12, t302⟩
  simp only at f2 f3 f4 f7 t2 t3 t4 t7 t300 t31 f55 f56 f57 t11 t12 t302
  unfold AF at t2 t3
  unfold AN at t4
  by_cases hlt2 : (k : Int) < b.moves.length
  ·obtain ⟨m, hm⟩ := Ap (show k < b.moves.length by omega)
   have hmm := AT hm
   have hmt := gb.to_ m hmm
   have hml := (Mv.err_ok.1 (b2 m hmm)).2.1
   have hkl : ((b.moves.take k).map (Bo a.states)).length = k := by
    rw [List.length_map, List.length_take]
    omega
   repeat' with_reducible first | refine W ?_ | refine Z0 ?_ | ((first | refine Wo fun K hK => ?_ | refine Wp ?_ | refine Wq ?_ | refine Wr ?_); (try simp only [go_sem, fN, seval, eT, iR, f2, f3, f4, f7, t2, t3, t4, t7, t300, t31, f55, f56, f57, t11, t12, t302, hlt2, hm, Ab, dT, dF, nL]); (repeat refine Ai ?_); (try (refine hK _ ?_; clear hK K)); try refine iC ?_)
   refine IWP.ghost (Aa.ownC (C := C) 12 1 302 3 1 (xs := ([] : List Int).map BE) (ty := 46) (cs := [.st (.str m.name), .full [], .st (.int .i64 (m.to_ + a.states))]) (by simp [AB]) rfl (by simp [AB, t302]) De) ?_
   refine IWP.loop (fun q s => ∃ i, i ≤ m.frm.length ∧ q = m.frm.length - i ∧ s.env 2 = .one (.ptr 2 1 0 0) ∧ s.env 3 = .one (.ptr 3 1 0 0) ∧ s.env 4 = .one (.ptr 4 1 0 0) ∧ s.env 7 = .one (.ptr 7 1 0 0) ∧ s.S 2 = some (AF a) ∧ s.S 3 = some (AF b) ∧ s.S 4 = some AN ∧ s.S 7 = some (.box 25 [.st (.int .i64 (a.states + b.states)), .row 300 (a.moves ++ (b.moves.take k).map (Bo a.states)).length, .row 31 (a.last).length]) ∧ s.S 300 = some (.arow 46 3 ((a.moves ++ (b.moves.take k).map (Bo a.states)).map Ab)) ∧ s.S 31 = some (.arow 3 1 ((a.last).map BE)) ∧ s.env 55 = .one (.st (.list (b.moves.map Ab))) ∧ s.env 56 = AR b.moves.length ∧ s.env 57 = AR k ∧ s.env 11 = .one (.ptr 11 1 0 0) ∧ s.S 11 = some (.box 46 [.st (.str m.name), .st (.list (m.frm.map BE)), .st (.int .i64 m.to_)]) ∧ s.env 12 = .one (.ptr 12 1 0 0) ∧ s.S 12 = some (.box 46 [.st (.str m.name), .row 302 i, .st (.int .i64 (m.to_ + a.states))]) ∧ s.S 302 = some (.arow 3 1 (((m.frm.take i).map (· + a.states)).map BE)) ∧ s.env 70 = .one (.st (.list (m.frm.map BE))) ∧ s.env 71 = AR m.frm.length ∧ s.env 72 = AR i) m.frm.length
    ⟨0, Nat.zero_le _, rfl, by simp [AS.set, AB, AF, AN, f2, f3, f4, f7, t2, t3, t4, t7, t300, t31, f55, f56, f57, t11, t12, t302], by simp [AS.set, AB, AF, AN, f2, f3, f4, f7, t2, t3, t4, t7, t300, t31, f55, f56, f57, t11, t12, t302], by simp [AS.set, AB, AF, AN, f2, f3, f4, f7, t2, t3, t4, t7, t300, t31, f55, f56, f57, t11, t12, t302], by simp [AS.set, AB, AF, AN, f2, f3, f4, f7, t2, t3, t4, t7, t300, t31, f55, f56, f57, t11, t12, t302], by simp [AS.set, AB, AF, AN, f2, f3, f4, f7, t2, t3, t4, t7, t300, t31, f55, f56, f57, t11, t12, t302], by simp [AS.set, AB, AF, AN, f2, f3, f4, f7, t2, t3, t4, t7, t300, t31, f55, f56, f57, t11, t12, t302], by simp [AS.set, AB, AF, AN, f2, f3, f4, f7, t2, t3, t4, t7, t300, t31, f55, f56, f57, t11, t12, t302], by simp [AS.set, AB, AF, AN, f2, f3, f4, f7, t2, t3, t4, t7, t300, t31, f55, f56, f57, t11, t12, t302], by simp [AS.set, AB, AF, AN, f2, f3, f4, f7, t2, t3, t4, t7, t300, t31, f55, f56, f57, t11, t12, t302], by simp [AS.set, AB, AF, AN, f2, f3, f4, f7, t2, t3, t4, t7, t300, t31, f55, f56, f57, t11, t12, t302], by simp [AS.set, AB, AF, AN, f2, f3, f4, f7, t2, t3, t4, t7, t300, t31, f55, f56, f57, t11, t12, t302], by simp [AS.set, AB, AF, AN, f2, f3, f4, f7, t2, t3, t4, t7, t300, t31, f55, f56, f57, t11, t12, t302], by simp [AS.set, AB, AF, AN, f2, f3, f4, f7, t2, t3, t4, t7, t300, t31, f55, f56, f57, t11, t12, t302], by simp [AS.set, AB, AF, AN, f2, f3, f4, f7, t2, t3, t4, t7, t300, t31, f55, f56, f57, t11, t12, t302], by simp [AS.set, AB, AF, AN, f2, f3, f4, f7, t2, t3, t4, t7, t300, t31, f55, f56, f57, t11, t12, t302], by simp [AS.set, AB, AF, AN, f2, f3, f4, f7, t2, t3, t4, t7, t300, t31, f55, f56, f57, t11, t12, t302], by simp [AS.set, AB, AF, AN, f2, f3, f4, f7, t2, t3, t4, t7, t300, t31, f55, f56, f57, t11, t12, t302], by simp [AS.set, AB, AF, AN, f2, f3, f4, f7, t2, t3, t4, t7, t300, t31, f55, f56, f57, t11, t12, t302], by simp [AS.set, AB, AF, AN, f2, f3, f4, f7, t2, t3, t4, t7, t300, t31, f55, f56, f57, t11, t12, t302], by simp [AS.set, AB, AF, AN, f2, f3, f4, f7, t2, t3, t4, t7, t300, t31, f55, f56, f57, t11, t12, t302], by simp [AS.set, AB, AF, AN, f2, f3, f4, f7, t2, t3, t4, t7, t300, t31, f55, f56, f57, t11, t12, t302]⟩ ?_
   rintro q ⟨env3, S3⟩ ⟨i, hi, rfl, u2, u3, u4, u7, v2, v3, v4, v7, v300, v31, u55, u56, u57, u11, v11, u12, v12, v302, u70, u71, u72⟩
   simp only at u2 u3 u4 u7 v2 v3 v4 v7 v300 v31 u55 u56 u57 u11 v11 u12 v12 v302 u70 u71 u72
   unfold AF at v2 v3
   unfold AN at v4
   have htk : ((m.frm.take i).map (· + a.states)).length = i := by
    rw [List.length_map, List.length_take]
    omega
   by_cases hil : (i : Int) < m.frm.length
   ·obtain ⟨x, hx⟩ := Ap (show i < m.frm.length by omega)
    have qx := gb.frm m hmm x (AT hx)
    repeat' with_reducible first | refine W ?_ | refine Z0 ?_ | ((first | refine Wo fun K hK => ?_ | refine Wp ?_ | refine Wq ?_ | refine Wr ?_); (try simp only [go_sem, fN, seval, eT, iR, u2, u3, u4, u7, v2, v3, v4, v7, v300, v31, u55, u56, u57, u11, v11, u12, v12, v302, u70, u71, u72, hil, hx, htk, dT, dF, nL]); (repeat refine Ai ?_); (try (refine hK _ ?_; clear hK K)); try refine iC ?_)
    refine AH ⟨m.frm.length - (i + 1), by omega, i + 1, by omega, rfl, ?_⟩
    simp only [go_sem, fN, seval, eT, iR, u2, u3, u4, u7, v2, v3, v4, v7, v300, v31, u55, u56, u57, u11, v11, u12, v12, v302, u70, u71, u72, AF, AN, htk]
    rw [Aj hx]
    simp
    try omega
   ·have hie : i = m.frm.length := by omega
    rw [List.take_of_length_le (l := m.frm) (i := i) (by omega)] at v302 htk
    repeat' with_reducible first | refine W ?_ | refine Z0 ?_ | ((first | refine Wo fun K hK => ?_ | refine Wp ?_ | refine Wq ?_ | refine Wr ?_); (try simp only [go_sem, fN, seval, eT, iR, u2, u3, u4, u7, v2, v3, v4, v7, v300, v31, u55, u56, u57, u11, v11, u12, v12, v302, u70, u71, u72, hil, htk, hkl, dT, dF, nL]); (repeat refine Ai ?_); (try (refine hK _ ?_; clear hK K)); try refine iC ?_)
    refine AH ⟨b.moves.length - (k + 1), by omega, k + 1, by omega, rfl, ?_⟩
    simp only [go_sem, fN, seval, AS.drop, As, AC.clears, AC.clear, AC.highs, AC.high, Bool.not_false, Bool.true_and, Bool.and_self, AV.purge, AV.purges, AC.purge, AJ.purge, List.contains_cons, List.contains_nil, Nat.reduceBEq, Bool.or_self, Bool.or_false, Bool.false_or, Bool.or_true, eT, iR, u2, u3, u4, u7, v2, v3, v4, v7, v300, v31, u55, u56, u57, u11, v11, u12, v12, v302, u70, u71, u72, AF, AN]
    rw [Aj hm]
    simp [Bo, Ab]
    try omega
  ·rw [List.take_of_length_le (l := b.moves) (i := k) (by omega)] at t7 t300
   repeat' with_reducible first | refine W ?_ | refine Z0 ?_ | ((first | refine Wo fun K hK => ?_ | refine Wp ?_ | refine Wq ?_ | refine Wr ?_); (try simp only [go_sem, fN, seval, eT, iR, f2, f3, f4, f7, t2, t3, t4, t7, t300, t31, f55, f56, f57, t11, t12, t302, hlt2, dT, dF, nL]); (repeat refine Ai ?_); (try (refine hK _ ?_; clear hK K)); try refine iC ?_)
   refine IWP.loop (fun q s => ∃ k, k ≤ b.last.length ∧ q = b.last.length - k ∧ s.env 2 = .one (.ptr 2 1 0 0) ∧ s.env 3 = .one (.ptr 3 1 0 0) ∧ s.env 4 = .one (.ptr 4 1 0 0) ∧ s.env 7 = .one (.ptr 7 1 0 0) ∧ s.S 2 = some (AF a) ∧ s.S 3 = some (AF b) ∧ s.S 4 = some AN ∧ s.S 7 = some (.box 25 [.st (.int .i64 (a.states + b.states)), .row 300 (a.moves ++ b.moves.map (Bo a.states)).length, .row 31 (a.last ++ (b.last.take k).map (· + a.states)).length]) ∧ s.S 300 = some (.arow 46 3 ((a.moves ++ b.moves.map (Bo a.states)).map Ab)) ∧ s.S 31 = some (.arow 3 1 ((a.last ++ (b.last.take k).map (· + a.states)).map BE)) ∧ s.env 94 = .one (.st (.list (b.last.map BE))) ∧ s.env 95 = AR b.last.length ∧ s.env 96 = AR k) b.last.length
    ⟨0, Nat.zero_le _, rfl, by simp [AS.set, AB, AF, AN, f2, f3, f4, f7, t2, t3, t4, t7, t300, t31, f55, f56, f57, t11, t12, t302], by simp [AS.set, AB, AF, AN, f2, f3, f4, f7, t2, t3, t4, t7, t300, t31, f55, f56, f57, t11, t12, t302], by simp [AS.set, AB, AF, AN, f2, f3, f4, f7, t2, t3, t4, t7, t300, t31, f55, f56, f57, t11, t12, t302], by simp [AS.set, AB, AF, AN, f2, f3, f4, f7, t2, t3, t4, t7, t300, t31, f55, f56, f57, t11, t12, t302], by simp [AS.set, AB, AF, AN, f2, f3, f4, f7, t2, t3, t4, t7, t300, t31, f55, f56, f57, t11, t12, t302], by simp [AS.set, AB, AF, AN, f2, f3, f4, f7, t2, t3, t4, t7, t300, t31, f55, f56, f57, t11, t12, t302], by simp [AS.set, AB, AF, AN, f2, f3, f4, f7, t2, t3, t4, t7, t300, t31, f55, f56, f57, t11, t12, t302], by simp [AS.set, AB, AF, AN, f2, f3, f4, f7, t2, t3, t4, t7, t300, t31, f55, f56, f57, t11, t12, t302], by simp [AS.set, AB, AF, AN, f2, f3, f4, f7, t2, t3, t4, t7, t300, t31, f55, f56, f57, t11, t12, t302], by simp [AS.set, AB, AF, AN, f2, f3, f4, f7, t2, t3, t4, t7, t300, t31, f55, f56, f57, t11, t12, t302], by simp [AS.set, AB, AF, AN, f2, f3, f4, f7, t2, t3, t4, t7, t300, t31, f55, f56, f57, t11, t12, t302], by simp [AS.set, AB, AF, AN, f2, f3, f4, f7, t2, t3, t4, t7, t300, t31, f55, f56, f57, t11, t12, t302], by simp [AS.set, AB, AF, AN, f2, f3, f4, f7, t2, t3, t4, t7, t300, t31, f55, f56, f57, t11, t12, t302]⟩ ?_
   rintro q ⟨env3, S3⟩ ⟨k, hk', rfl, x2, x3, x4, x7, y2, y3, y4, y7, y300, y31, x94, x95, x96⟩
   simp only at x2 x3 x4 x7 y2 y3 y4 y7 y300 y31 x94 x95 x96
   unfold AF at y2 y3
   unfold AN at y4
   by_cases hlt3 : (k : Int) < b.last.length
   ·obtain ⟨x, hx⟩ := Ap (show k < b.last.length by omega)
    have qx := gb.last x (AT hx)
    have hkl : ((b.last.take k).map (· + a.states)).length = k := by
     rw [List.length_map, List.length_take]
     omega
    repeat' with_reducible first | refine W ?_ | refine Z0 ?_ | ((first | refine Wo fun K hK => ?_ | refine Wp ?_ | refine Wq ?_ | refine Wr ?_); (try simp only [go_sem, fN, seval, eT, iR, x2, x3, x4, x7, y2, y3, y4, y7, y300, y31, x94, x95, x96, hlt3, hx, hkl, dT, dF, nL]); (repeat refine Ai ?_); (try (refine hK _ ?_; clear hK K)); try refine iC ?_)
    refine AH ⟨b.last.length - (k + 1), by omega, k + 1, by omega, rfl, ?_⟩
    simp only [go_sem, fN, seval, eT, iR, x2, x3, x4, x7, y2, y3, y4, y7, y300, y31, x94, x95, x96, AF, AN, hkl]
    rw [Aj hx]
    simp
    try omega
   ·rw [List.take_of_length_le (l := b.last) (i := k) (by omega)] at y7 y31
    repeat' with_reducible first | refine W ?_ | refine Z0 ?_ | ((first | refine Wo fun K hK => ?_ | refine Wp ?_ | refine Wq ?_ | refine Wr ?_); (try simp only [go_sem, fN, seval, eT, iR, x2, x3, x4, x7, y2, y3, y4, y7, y300, y31, x94, x95, x96, hlt3, dT, dF, nL]); (repeat refine Ai ?_); (try (refine hK _ ?_; clear hK K)); try refine iC ?_)
    simp only [go_sem, fN, seval, Ae, AS.result, AK, AL, AZ, x2, x3, x4, x7, y2, y3, y4, y7, y300, y31, x94, x95, x96]
    simp [Au.either]

theorem HS : ∀ {bs : List (List Bool)} {ss : List Int} {j : Nat} {b : List Bool} {s : Int}, bs[j]? = some b → ss[j]? = some s → Az (bs.take (j + 1)) (ss.take (j + 1)) = (Az (bs.take j) (ss.take j) && b.getD s.toNat false)
 | b0 :: bs, s0 :: ss, 0, b, s, hb, hs => by
  simp at hb hs
  subst hb hs
  simp [Az]
 | b0 :: bs, s0 :: ss, j + 1, b, s, hb, hs => by
  simp only [List.take_succ_cons, Az]
  rw [HS (by simpa using hb) (by simpa using hs), Bool.and_assoc]
 | [], _, _, _, _, hb, _ => by simp at hb
 | _ :: _, [], _, _, _, _, hs => by simp at hs
theorem IM : ∀ {bs : List (List Bool)} {ss : List Int}, ¬ ss.length = bs.length → Az bs ss = false
 | [], [], h => absurd rfl h
 | [], _ :: _, _ => rfl
 | _ :: _, [], _ => rfl
 | b :: bs, s :: ss, h => by
  rw [Az, IM (fun e => h (by simp [e]))]
  simp


set_option maxRecDepth 100000
def ER : IR :=
 (.seq (.ops [.i 1 (.box 25 (.t 0)), .i 2 (.mov (.c (.one (.st (.bool false)))))]) (.seq (.seq (.ops [.i 3 (.mov (.n 0))]) (.block 0 (.loop (.seq (.seq (.ops [.m 4 3, .f 5 1 1, .l 6 5, .i 7 (.len false (.t 6)), .i 8 (.bin .lss (.t 4) (.t 7))]) (.cond (.t 8) .skip (.exit 0))) (.seq (.block 1 (.seq (.ops [.f 11 1 1, .l 12 11, .m 13 3, .i 14 (.indexAddr 3 (.t 12) (.t 13)), .f 15 1 14, .l 16 15, .i 17 (.len false (.t 16)), .i 18 (.bin .gtr (.t 17) (.n 2))]) (.cond (.t 18) (.seq (.ops [.i 2 (.mov (.c (.one (.st (.bool false)))))]) .ret) .skip))) (.ops [.m 9 3, .i 10 (.bin .add (.t 9) (.n 1)), .m 3 10])))))) (.seq (.ops [.f 19 0 1, .l 20 19, .i 21 (.bin .leq (.t 20) (.n 3)), .m 2 21]) .ret)))
theorem Ho : OkF Try.prog 9 22 [] ER [.t 2] := .of Try.func9 rfl rfl (by kernel_rfl) rfl
def BO : IR :=
 (.seq (.ops [.i 8 (.mov (.c (.one (.st (.bool false)))))]) (.seq (.seq (.ops [.m 27 0, .i 28 (.len false (.t 27)), .i 29 (.bin .gtr (.t 28) (.n 256))]) (.cond (.t 29) (.seq (.ops [.i 8 (.mov (.c (.one (.st (.bool true)))))]) .ret) .skip)) (.seq (.ops [.m 30 0, .m 31 1, .i 32 (.call 15 [.t 31, .n 2]), .i 33 (.bin .add (.n 1) (.t 32)), .m 34 2, .i 35 (.call 15 [.t 34, .n 7]), .i 36 (.call 14 [.t 30, .n 0, .t 33, .t 35]), .i 9 (.alloc 25 [.st (.int .i64 0), .full [], .full []]), .s 3 9 36]) (.seq (.ops [.m 37 0, .m 38 3, .i 39 (.call 15 [.t 38, .n 7]), .i 40 (.call 14 [.t 37, .n 60, .n 1, .t 39]), .i 10 (.alloc 25 [.st (.int .i64 0), .full [], .full []]), .s 3 10 40]) (.seq (.ops [.m 42 0, .i 43 (.call 16 [.t 42, .n 100, .n 14]), .m 41 43, .i 44 (.extract 0 (.t 41)), .i 45 (.extract 1 (.t 41)), .i 11 (.alloc 39 [.st (.str (ByteArray.mk (#[]))), .full []]), .s 2 11 44, .m 12 45]) (.seq (.ops [.L 47 3 9, .L 48 3 10, .i 49 (.call 12 [.t 47, .t 48]), .m 46 49, .i 50 (.extract 0 (.t 46)), .i 51 (.extract 1 (.t 46)), .m 13 50, .m 14 51]) (.seq (.ops [.L 53 3 9, .L 54 3 9, .i 55 (.call 12 [.t 53, .t 54]), .m 52 55, .i 56 (.extract 0 (.t 52)), .i 57 (.extract 1 (.t 52)), .m 15 56, .m 16 57]) (.seq (.ops [.L 59 3 9, .L 60 2 11, .i 61 (.call 19 [.t 59, .t 60]), .m 58 61, .i 62 (.extract 0 (.t 58)), .i 63 (.extract 1 (.t 58)), .m 17 62, .m 18 63]) (.seq (.ops [.L 65 3 10, .L 66 2 11, .i 67 (.call 19 [.t 65, .t 66]), .m 64 67, .i 68 (.extract 0 (.t 64)), .i 69 (.extract 1 (.t 64)), .m 19 68, .m 20 69]) (.seq (.seq (.ops [.m 70 14, .i 71 (.bin .neq (.t 70) (.n 0)), .m 72 71, .mk (some 73) (some (72, false)) (.mov (.t 16)) .no, .mk (some 74) (some (72, false)) (.bin .neq (.t 73) (.n 0)) .no, .i 75 (.pick (.t 72) (.c (.one (.st (.bool true)))) (.t 74)), .m 76 75, .mk (some 77) (some (76, false)) (.mov (.t 18)) .no, .mk (some 78) (some (76, false)) (.bin .neq (.t 77) (.n 0)) .no, .i 79 (.pick (.t 76) (.c (.one (.st (.bool true)))) (.t 78)), .m 80 79, .mk (some 81) (some (80, false)) (.mov (.t 20)) .no, .mk (some 82) (some (80, false)) (.bin .neq (.t 81) (.n 0)) .no, .i 83 (.pick (.t 80) (.c (.one (.st (.bool true)))) (.t 82)), .m 84 83, .mk (some 85) (some (84, false)) (.mov (.t 15)) .no, .mk (some 86) (some (84, false)) (.un .not (.t 85)) .no, .i 87 (.pick (.t 84) (.c (.one (.st (.bool true)))) (.t 86)), .m 88 87, .mk (some 89) (some (88, false)) (.mov (.t 13)) .no, .mk (some 90) (some (88, false)) (.mov (.t 89)) .no, .mk (some 91) (some (90, true)) (.mov (.t 17)) .no, .mk (some 92) (some (88, false)) (.pick (.t 90) (.t 91) (.c (.one (.st (.bool false))))) .no, .mk (some 93) (some (88, false)) (.mov (.t 92)) .no, .mk (some 94) (some (93, true)) (.mov (.t 19)) .no, .mk (some 95) (some (93, true)) (.un .not (.t 94)) .no, .mk (some 96) (some (88, false)) (.pick (.t 93) (.t 95) (.c (.one (.st (.bool false))))) .no, .i 97 (.pick (.t 88) (.c (.one (.st (.bool true)))) (.t 96))]) (.cond (.t 97) (.seq (.ops [.i 8 (.mov (.c (.one (.st (.bool false)))))]) .ret) .skip)) (.seq (.ops [.L 99 3 9, .L 100 3 10, .i 101 (.call 20 [.t 99, .t 100]), .m 98 101, .i 102 (.extract 0 (.t 98)), .i 103 (.extract 1 (.t 98)), .i 21 (.alloc 25 [.st (.int .i64 0), .full [], .full []]), .s 3 21 102, .m 14 103]) (.seq (.ops [.L 105 3 9, .L 106 3 10, .i 107 (.call 21 [.t 105, .t 106]), .m 104 107, .i 108 (.extract 0 (.t 104)), .i 109 (.extract 1 (.t 104)), .i 22 (.alloc 25 [.st (.int .i64 0), .full [], .full []]), .s 3 22 108, .m 16 109]) (.seq (.seq (.ops [.m 110 14, .i 111 (.bin .neq (.t 110) (.n 0)), .m 112 111, .mk (some 113) (some (112, false)) (.mov (.t 16)) .no, .mk (some 114) (some (112, false)) (.bin .neq (.t 113) (.n 0)) .no, .i 115 (.pick (.t 112) (.c (.one (.st (.bool true)))) (.t 114))]) (.cond (.t 115) (.seq (.ops [.i 8 (.mov (.c (.one (.st (.bool false)))))]) .ret) .skip)) (.seq (.seq (.ops [.L 116 3 21, .i 117 (.call 9 [.t 116]), .i 118 (.un .not (.t 117)), .m 119 118, .mk (some 120) (some (119, false)) (.load true 3 (.t 22)) .no, .mk (some 121) (some (119, false)) (.call 9 [.t 120]) .no, .mk (some 122) (some (119, false)) (.un .not (.t 121)) .no, .i 123 (.pick (.t 119) (.c (.one (.st (.bool true)))) (.t 122)), .m 124 123, .mk (some 125) (some (124, false)) (.fieldAddr 1 (.t 21)) .no, .mk (some 126) (some (124, false)) (.load false 1 (.t 125)) .no, .mk (some 127) (some (124, false)) (.len false (.t 126)) .no, .mk (some 128) (some (124, false)) (.bin .gtr (.t 127) (.n 40)) .no, .i 129 (.pick (.t 124) (.c (.one (.st (.bool true)))) (.t 128)), .m 130 129, .mk (some 131) (some (130, false)) (.fieldAddr 1 (.t 22)) .no, .mk (some 132) (some (130, false)) (.load false 1 (.t 131)) .no, .mk (some 133) (some (130, false)) (.len false (.t 132)) .no, .mk (some 134) (some (130, false)) (.bin .gtr (.t 133) (.n 40)) .no, .i 135 (.pick (.t 130) (.c (.one (.st (.bool true)))) (.t 134))]) (.cond (.t 135) (.seq (.ops [.i 8 (.mov (.c (.one (.st (.bool true)))))]) .ret) .skip)) (.seq (.ops [.L 137 3 21, .L 138 3 9, .i 139 (.call 12 [.t 137, .t 138]), .m 136 139, .i 140 (.extract 0 (.t 136)), .i 141 (.extract 1 (.t 136)), .m 23 140, .m 14 141]) (.seq (.ops [.L 143 3 21, .L 144 3 10, .i 145 (.call 12 [.t 143, .t 144]), .m 142 145, .i 146 (.extract 0 (.t 142)), .i 147 (.extract 1 (.t 142)), .m 24 146, .m 16 147]) (.seq (.ops [.L 149 3 9, .L 150 3 22, .i 151 (.call 12 [.t 149, .t 150]), .m 148 151, .i 152 (.extract 0 (.t 148)), .i 153 (.extract 1 (.t 148)), .m 25 152, .m 18 153]) (.seq (.ops [.L 155 3 10, .L 156 3 22, .i 157 (.call 12 [.t 155, .t 156]), .m 154 157, .i 158 (.extract 0 (.t 154)), .i 159 (.extract 1 (.t 154)), .m 26 158, .m 20 159]) (.seq (.ops [.m 160 14, .i 161 (.bin .eql (.t 160) (.n 0)), .m 162 161, .mk (some 163) (some (162, true)) (.mov (.t 16)) .no, .mk (some 164) (some (162, true)) (.bin .eql (.t 163) (.n 0)) .no, .i 165 (.pick (.t 162) (.t 164) (.c (.one (.st (.bool false))))), .m 166 165, .mk (some 167) (some (166, true)) (.mov (.t 18)) .no, .mk (some 168) (some (166, true)) (.bin .eql (.t 167) (.n 0)) .no, .i 169 (.pick (.t 166) (.t 168) (.c (.one (.st (.bool false))))), .m 170 169, .mk (some 171) (some (170, true)) (.mov (.t 20)) .no, .mk (some 172) (some (170, true)) (.bin .eql (.t 171) (.n 0)) .no, .i 173 (.pick (.t 170) (.t 172) (.c (.one (.st (.bool false))))), .m 174 173, .mk (some 175) (some (174, true)) (.mov (.t 23)) .no, .i 176 (.pick (.t 174) (.t 175) (.c (.one (.st (.bool false))))), .m 177 176, .mk (some 178) (some (177, true)) (.mov (.t 24)) .no, .i 179 (.pick (.t 177) (.t 178) (.c (.one (.st (.bool false))))), .m 180 179, .mk (some 181) (some (180, true)) (.mov (.t 25)) .no, .i 182 (.pick (.t 180) (.t 181) (.c (.one (.st (.bool false))))), .m 183 182, .mk (some 184) (some (183, true)) (.mov (.t 26)) .no, .i 185 (.pick (.t 183) (.t 184) (.c (.one (.st (.bool false))))), .m 8 185]) .ret)))))))))))))))))))
theorem Bs : OkF Try.prog 6 186 [] BO [.t 8] := .of Try.func6 rfl rfl (by kernel_rfl) rfl

def E0 : IR :=
 (.seq (.ops [.i 3 (.box 25 (.t 0)), .i 4 (.box 25 (.t 1)), .i 6 (.mov (.c (.one (.full []))))]) (.seq (.ops [.i 7 (.alloc 61 [.full []])]) (.seq (.ops [.i 18 (.makeMap (some (Go.Proofs.Ytkegjgodjigjfaa.KK.two (some .u64) (some .u64)))), .i 8 (.alloc 97 [.st (.lit (.map none))]), .s 1 8 18]) (.seq (.seq (.ops [.i 9 (.alloc 4 [.st (.bool false)]), .mk none none (.store 1 (.t 9) (.c (.one (.st (.bool true))))) .no]) (.block 0 (.loop (.seq (.seq (.ops [.l 19 9]) (.cond (.t 19) .skip (.exit 0))) (.seq (.block 1 (.seq (.ops [.mk none none (.store 1 (.t 9) (.c (.one (.st (.bool false))))) .no]) (.seq (.ops [.m 20 2, .i 21 (.len false (.t 20)), .i 22 (.mov (.n 0))]) (.block 2 (.loop (.seq (.ops [.i 23 (.bin .lss (.t 22) (.t 21))]) (.seq (.cond (.t 23) .skip (.exit 2)) (.seq (.block 3 (.seq (.ops [.i 24 (.indexAddr 2 (.t 20) (.t 22)), .L 25 2 24, .i 11 (.alloc 72 [.st (.str (ByteArray.mk (#[]))), .st (.int .i64 0)]), .s 2 11 25]) (.seq (.ops [.l 26 7, .i 27 (.len false (.t 26)), .f 28 1 11, .l 29 28, .i 30 (.call 35 [.t 27, .t 29])]) (.block 4 (.rangeF (.t 30) [31] (.ops [.m 12 31]) (.block 5 (.seq (.ops [.i 13 (.mov (.c (.one (.full [])))), .i 14 (.mov (.c (.one (.full []))))]) (.seq (.seq (.ops [.m 32 12, .i 33 (.len false (.t 32)), .i 34 (.mov (.n 0))]) (.block 6 (.loop (.seq (.ops [.i 35 (.bin .lss (.t 34) (.t 33))]) (.seq (.cond (.t 35) .skip (.exit 6)) (.seq (.block 7 (.seq (.ops [.i 36 (.indexAddr 1 (.t 32) (.t 34)), .l 37 36, .m 16 37]) (.ops [.m 38 13, .l 39 7, .m 40 16, .i 41 (.indexAddr 2 (.t 39) (.t 40)), .f 42 0 41, .l 43 42, .i 44 (.buildFlat [.t 43]), .mk (some 45) none (.append false 65 1 8 (.t 38) (.t 44)) (.keeps [1007, 1500]), .m 46 14, .mk (some 47) none (.load false 1 (.t 7)) (.onb 1007), .m 48 16, .mk (some 49) none (.indexAddr 2 (.t 47) (.t 48)) (.onb 1500), .i 50 (.fieldL 1 (.t 49)), .i 51 (.loadL false 1 (.t 50)), .i 52 (.buildFlat [.t 51]), .i 53 (.append false 65 1 8 (.t 46) (.t 52)), .m 13 45, .m 14 53]))) (.ops [.i 54 (.bin .add (.t 34) (.n 1)), .m 34 54]))))))) (.seq (.ops [.L 55 3 3, .f 56 0 11, .l 57 56, .m 58 13, .i 59 (.call 36 [.t 55, .t 57, .t 58]), .L 60 3 4, .f 61 0 11, .l 62 61, .m 63 14, .i 64 (.call 36 [.t 60, .t 62, .t 63]), .i 65 (.build [.st (.int .u64 0), .st (.int .u64 0)] [(0, 1, .t 59), (1, 1, .t 64)]), .i 17 (.alloc 67 [.st (.int .u64 0), .st (.int .u64 0)]), .s 2 17 65]) (.seq (.ops [.l 66 8, .L 67 2 17, .i 68 (.lookup (some (Go.Proofs.Ytkegjgodjigjfaa.KK.two (some .u64) (some .u64))) false (.one (.st (.bool false))) (.t 66) (.t 67)), .i 69 (.un .not (.t 68))]) (.cond (.t 69) (.seq (.ops [.l 70 8, .L 71 2 17, .mk none none (.mapSet (some (Go.Proofs.Ytkegjgodjigjfaa.KK.two (some .u64) (some .u64))) (.t 70) (.t 71) (.c (.one (.st (.bool true))))) .no]) (.seq (.ops [.l 72 7, .L 73 2 17, .i 74 (.buildSlice false 67 2 [.t 73]), .i 75 (.append false 67 2 16 (.t 72) (.t 74)), .s 1 7 75]) (.ops [.mk none none (.store 1 (.t 9) (.c (.one (.st (.bool true))))) .no]))) .skip))))))))))) (.ops [.i 76 (.bin .add (.t 22) (.n 1)), .m 22 76]))))))))) (.seq (.ops [.l 77 9]) (.ops [.i 9 (.alloc 4 [.st (.bool false)]), .s 1 9 77]))))))) (.seq (.ops [.l 78 7, .m 6 78]) .ret)))))
theorem H4 : OkF Try.prog 31 79 [10071007, 10471500, 60000050, 60000051] E0 [.t 6] := .of Try.func31 rfl rfl (by kernel_rfl) rfl
def E8 : IR :=
 (.seq (.ops [.i 2 (.mov (.n 0))]) (.seq (.seq (.ops [.m 7 0, .i 8 (.len false (.t 7)), .i 9 (.mov (.n 0))]) (.block 0 (.loop (.seq (.ops [.i 10 (.bin .lss (.t 9) (.t 8))]) (.seq (.cond (.t 10) .skip (.exit 0)) (.seq (.block 1 (.seq (.ops [.i 11 (.indexAddr 3 (.t 7) (.t 9)), .L 12 3 11, .i 4 (.alloc 25 [.st (.int .i64 0), .full [], .full []]), .s 3 4 12]) (.seq (.seq (.ops [.f 13 0 4, .l 14 13, .i 15 (.bin .gtr (.t 14) (.n 3))]) (.cond (.t 15) (.seq (.ops [.i 2 (.mov (.n 3))]) .ret) .skip)) (.seq (.ops [.f 16 1 4, .l 17 16, .i 18 (.len false (.t 17)), .i 19 (.mov (.n 0))]) (.block 2 (.loop (.seq (.ops [.i 20 (.bin .lss (.t 19) (.t 18))]) (.seq (.cond (.t 20) .skip (.exit 2)) (.seq (.block 3 (.seq (.ops [.i 21 (.indexAddr 3 (.t 17) (.t 19)), .L 22 3 21, .i 6 (.alloc 46 [.st (.str (ByteArray.mk (#[]))), .full [], .st (.int .i64 0)]), .s 3 6 22]) (.seq (.ops [.f 23 1 6, .l 24 23, .i 25 (.len false (.t 24)), .i 26 (.bin .gtr (.t 25) (.n 2))]) (.cond (.t 26) (.seq (.ops [.i 2 (.mov (.n 3))]) .ret) .skip)))) (.ops [.i 27 (.bin .add (.t 19) (.n 1)), .m 19 27])))))))))) (.ops [.i 28 (.bin .add (.t 9) (.n 1)), .m 9 28]))))))) (.seq (.ops [.i 2 (.mov (.n 0))]) .ret)))
theorem IC : OkF Try.prog 30 29 [] E8 [.t 2] := .of Try.func30 rfl rfl (by kernel_rfl) rfl
def CI : IR :=
 (.seq (.ops [.i 2 (.box 25 (.t 0)), .i 3 (.box 25 (.t 1)), .i 4 (.mov (.c (.one (.st (.bool false))))), .i 5 (.mov (.n 0))]) (.seq (.seq (.ops [.L 10 3 2, .L 11 3 3, .i 12 (.call 29 [.t 10, .t 11]), .m 6 12]) (.seq (.ops [.m 13 6, .i 14 (.bin .neq (.t 13) (.n 0))]) (.cond (.t 14) (.seq (.ops [.m 15 6, .i 4 (.mov (.c (.one (.st (.bool false))))), .m 5 15]) .ret) .skip))) (.seq (.seq (.ops [.L 16 3 2, .L 17 3 3, .i 18 (.buildSlice false 25 3 [.t 16, .t 17]), .i 19 (.call 30 [.t 18]), .m 7 19]) (.seq (.ops [.m 20 7, .i 21 (.bin .neq (.t 20) (.n 0))]) (.cond (.t 21) (.seq (.ops [.m 22 7, .i 4 (.mov (.c (.one (.st (.bool false))))), .m 5 22]) .ret) .skip))) (.seq (.seq (.ops [.L 23 3 2, .L 24 3 3, .L 25 3 2, .L 26 3 3, .i 27 (.buildSlice false 25 3 [.t 25, .t 26]), .i 28 (.call 32 [.t 27]), .i 29 (.call 31 [.t 23, .t 24, .t 28]), .i 30 (.len false (.t 29)), .i 31 (.mov (.n 0))]) (.block 0 (.loop (.seq (.ops [.i 32 (.bin .lss (.t 31) (.t 30))]) (.seq (.cond (.t 32) .skip (.exit 0)) (.seq (.block 1 (.seq (.ops [.i 33 (.indexAddr 2 (.t 29) (.t 31)), .L 34 2 33, .i 9 (.alloc 67 [.st (.int .u64 0), .st (.int .u64 0)]), .s 2 9 34]) (.seq (.ops [.f 35 0 9, .l 36 35, .L 37 3 2, .i 38 (.call 33 [.t 37]), .i 39 (.bits .and (.t 36) (.t 38)), .i 40 (.bin .neq (.t 39) (.c (.one (.st (.int .u64 0))))), .m 41 40, .mk (some 42) (some (41, true)) (.fieldAddr 1 (.t 9)) .no, .mk (some 43) (some (41, true)) (.load false 1 (.t 42)) .no, .mk (some 44) (some (41, true)) (.load true 3 (.t 3)) .no, .mk (some 45) (some (41, true)) (.call 33 [.t 44]) .no, .mk (some 46) (some (41, true)) (.bits .and (.t 43) (.t 45)) .no, .mk (some 47) (some (41, true)) (.bin .eql (.t 46) (.c (.one (.st (.int .u64 0))))) .no, .i 48 (.pick (.t 41) (.t 47) (.c (.one (.st (.bool false)))))]) (.cond (.t 48) (.seq (.ops [.i 4 (.mov (.c (.one (.st (.bool false))))), .i 5 (.mov (.n 0))]) .ret) .skip)))) (.ops [.i 49 (.bin .add (.t 31) (.n 1)), .m 31 49]))))))) (.seq (.ops [.i 4 (.mov (.c (.one (.st (.bool true))))), .i 5 (.mov (.n 0))]) .ret)))))
theorem C9 : OkF Try.prog 12 50 [] CI [.t 4, .t 5] := .of Try.func12 rfl rfl (by kernel_rfl) rfl

section
variable {P : Program} {C : Ctx} {a : Act} {w : World} {σ : Sto} {ι : Ah} {s : AS} {Q : Exit → Act → World → Prop} {o : Oper}
end
section
variable {P : Program} {C : Ctx} {mu : List Nat} {Q : AX → AS → Prop} {s : AS}
end

def Qi (P : Program) (f : FuncId) (caps : List AV) (Need : AA → Prop) {α : Type} (encs : α → List AV) (all : List α) : Prop :=
 ∀ (y : Nat) (Inv : List α → AA → Prop) (Jx : AA → Prop) (T : AA), 1000 ≤ y → (∀ pre T, Inv pre T → Need T) →
  (∀ pre v, (pre ++ [v]) <+: all → ∀ T, Inv pre T → Cv P (.one (.yld y)) (encs v) T fun r T' => (r = .one (.st (.bool true)) ∧ Inv (pre ++ [v]) T') ∨ (r = .one (.st (.bool false)) ∧ Jx T')) →
  Inv [] T → Ei P f (.one (.yld y) :: caps) T fun _ T' => Inv all T' ∨ Jx T'
def G5 (env : Nat → AV) : List Nat → List AV → Nat → AV
 | p :: ps, v :: vs => G5 (AB env p v) ps vs
 | _, _ => env
section
variable {σ : Sto} {S : AA} {ι : Ah}
theorem I6 {n : Nat} : ∀ {ps : List Nat} {vs : List Value} {xs : List AV} {tmps : Array Value} {env : Nat → AV}, AU (AO σ S ι) vs xs → n ≤ tmps.size → (∀ i, i < n → AO σ S ι (tmps.getD i undef) (env i)) →
  n ≤ ((ps.zip vs).foldl (fun t (p, v) => t.setIfInBounds p v) tmps).size ∧ ∀ i, i < n → AO σ S ι (((ps.zip vs).foldl (fun t (p, v) => t.setIfInBounds p v) tmps).getD i undef) (G5 env ps xs i)
 | [], vs, xs, tmps, env, h, hs, he => ⟨hs, he⟩
 | p :: ps, [], [], tmps, env, h, hs, he => ⟨hs, he⟩
 | p :: ps, v :: vs, x :: xs, tmps, env, h, hs, he => by
  cases h with
  | cons h1 h2 =>
   refine I6 (ps := ps) h2 (by simpa using hs) fun i hi => ?_
   unfold AB
   by_cases e : i = p
   ·subst e
    rw [if_pos rfl, Array.getD_eq_getD_getElem?, Array.getElem?_setIfInBounds_self_of_lt (by omega)]
    exact h1
   ·rw [if_neg e, Array.getD_eq_getD_getElem?, Array.getElem?_setIfInBounds_ne (fun h => e h.symm), ← Array.getD_eq_getD_getElem?]
    exact he i hi
end
section
variable {P : Program} {C : Ctx} {mu : List Nat} {Q : AX → AS → Prop} {s : AS} {x y : IR} {σ : Sto} {ι : Ah} {a : Act} {w : World}
theorem AM.upped (R : AM C σ ι s a w) : ∃ ι1 : Ah, (∀ i, ι1 (up1 i) = ι i) ∧ DX σ (upS s.S) ι1 w ∧ (∀ v c, AO σ s.S ι v c → AO σ (upS s.S) ι1 v (c.ren up1)) ∧
  ∀ {Post : AV → AA → Prop} {e : Ending} {w' : World}, JZ σ (upS s.S) ι1 w Post e w' → ∃ v r S' σ' ι2, e = .returned v ∧ Post r S' ∧ Ad S' ∧ Upd s.S ι (dnS S') ι2 ∧ AM C σ' ι2 ⟨s.env, dnS S'⟩ a w' := by
 have hup : ∀ i, dn1 (up1 i) = i := Ge
 have hS : ∀ i b, s.S i = some b → upS s.S (up1 i) = some (b.ren up1) := fun i b hb => B1 hb
 obtain ⟨ι1, hι1⟩ : ∃ ι1 : Ah, ∀ i, ι1 i = ι (dn1 i) := ⟨fun i => ι (dn1 i), fun _ => rfl⟩
 have hι : ∀ i b, s.S i = some b → ι1 (up1 i) = ι i := fun i b _ => by rw [hι1, hup]
 have hown : DX σ (upS s.S) ι1 w := by
  refine ⟨fun id b hb => ?_, fun id id' b b' g h1 h2 g1 g2 => ?_⟩
  ·obtain ⟨hle, b', h1, rfl⟩ := DG hb
   have := BR.ren (S2 := upS s.S) (ι2 := ι1) (ρ := up1) hS hι (R.blk _ _ h1)
   rw [hι1]
   exact this
  ·obtain ⟨l1, c1, k1, _⟩ := DG h1
   obtain ⟨l2, c2, k2, _⟩ := DG h2
   rw [hι1] at g1 g2
   have := R.inj _ _ _ _ g k1 k2 g1 g2
   rw [← HI l1, ← HI l2, this]
 refine ⟨ι1, fun i => by rw [hι1, hup], hown, fun v c hv => AO.ren (S2 := upS s.S) (ι2 := ι1) (ρ := up1) hS hι hv, fun {Post e w'} he => ?_⟩
 obtain ⟨v, r, S', σ', ι', rfl, hP, hclean, hupd, hown', hv, hf', hkeep, hold, hos, hsz, hsame, hbase⟩ := he
 have hSd : ∀ i b, S' i = some b → dnS S' (dn1 i) = some (b.ren dn1) := fun i b hb => Fv (hclean i b hb).1 hb
 obtain ⟨ι2, hι2⟩ : ∃ ι2 : Ah, ∀ i, ι2 i = ι' (up1 i) := ⟨fun i => ι' (up1 i), fun _ => rfl⟩
 have hιd : ∀ i b, S' i = some b → ι2 (dn1 i) = ι' i := fun i b hb => by
  rw [hι2, HI (hclean i b hb).1]
 have hu : Upd s.S ι (dnS S') ι2 := fun id b hb => by
  obtain ⟨b', h1, h2, h3⟩ := hupd _ _ (hS id b hb)
  have h4 := hSd _ _ h1
  rw [hup] at h4
  refine ⟨_, h4, by rw [BL] at h2 ⊢; exact h2, fun hl => ?_⟩
  rw [BL] at hl
  obtain ⟨q1, q2⟩ := h3 (by rw [BL]; exact hl)
  refine ⟨by rw [Gs] at q1 ⊢; exact q1, ?_⟩
  rw [hι2, q2, hι1, hup]
 have hnot : ∀ g, g < C.N → ¬ C.G g → Bj (upS s.S) ι1 g := fun g h1 h2 id b hb hg => by
  obtain ⟨_, b', k1, _⟩ := DG hb
  rw [hι1] at hg
  rcases R.base _ _ g k1 hg with h | h
  ·omega
  ·exact h2 h
 refine ⟨v, r, S', σ', ι2, rfl, hP, hclean, hu, ?_⟩
 refine ⟨R.size, fun i hi => (R.env i hi).mono hkeep hu, R.nod.mono (fun D h => (hsame D (Array.getElem?_eq_some_iff.1 h).1 (Do hown.1 h)).trans h), hf', fun id b hb => ?_, fun id id' b b' g h1 h2 g1 g2 => ?_, fun id b g hb hg => ?_, fun p x hx => hkeep _ _ (R.ext p x hx), fun p h1 h2 => ?_, ⟨hos.1.trans R.os.1, hos.2.1.trans R.os.2.1, hos.2.2.trans R.os.2.2⟩, ⟨Nat.le_trans R.grown.1 hsz, Nat.le_trans R.grown.2 hsz⟩, fun g h1 h2 => ?_, R.upd.trans hu⟩
 ·obtain ⟨b', h1, rfl⟩ := DJ hb
  have := BR.ren (S2 := dnS S') (ι2 := ι2) (ρ := dn1) hSd hιd (hown'.1 _ _ h1)
  rw [hι2]
  exact this
 ·obtain ⟨c1, k1, _⟩ := DJ h1
  obtain ⟨c2, k2, _⟩ := DJ h2
  rw [hι2] at g1 g2
  have := congrArg dn1 (hown'.2 _ _ _ _ g k1 k2 g1 g2)
  rw [hup, hup] at this
  exact this
 ·obtain ⟨b', h1, _⟩ := DJ hb
  rw [hι2] at hg
  rcases hbase _ _ g h1 hg with h2 | h2
  ·exact .inl (by have := R.grown.1; omega)
  ·by_cases hN : g < C.N
   ·by_cases hG : C.G g
    ·exact .inr hG
    ·exact absurd (hnot g hN hG) h2
   ·exact .inl (by omega)
 ·exact (hold p (by have := R.grown.1; omega) (hnot _ h1 h2)).trans (R.old p h1 h2)
 ·exact (hsame g (by have := R.grown.1; omega) (hnot g h1 h2)).trans (R.same g h1 h2)
theorem AM.setLoop (R : AM C σ ι s a w) {id l : Nat} {env : List AV} {r : Loop} (r' : Loop) (hS : s.S id = some (.loop env r)) (hl : (ι id).g = some l) (hr : r'.tmps = r.tmps) : w.heap[l]? = some (.loop r) ∧ ∃ ι', AM C σ ι' (s.set id (.loop env r')) a (w.putObj l (.loop r')) ∧ Upd s.S ι (s.set id (.loop env r')).S ι' := by
 have hb := R.blk id _ hS
 cases hb with
 | loop h1 h2 h3 h4 h5 =>
  rw [hl] at h1
  cases h1
  exact ⟨h2, R.setBlk (o' := .loop r') hS hl h2 h5 rfl rfl fun S' ι' hu => .loop hl (CL h2).1 (by rw [hr]; exact h3) (fun j a ha => by rw [hr]; exact (h4 j a ha).mono (fun _ _ h => h) hu) h5⟩
def JE (C : Ctx) (y : Nat) (b : AJ) (N : AA → Prop) (Jx : AX → AA → Prop) (e : AX) (s : AS) : Prop := ∃ s2 U, Aa C s s2 ∧ s2.S = AB U y (some b) ∧ Ad s2.S ∧ U y = none ∧ match e with
 | .normal => N U
 | .ret => Jx .ret U
 | .exit i => Jx (.exit i) U
 | .pan _ => False
theorem Dn {C : Ctx} {σ0 : Sto} {T : AA} {ι0 : Ah} {w0 : World} (hC : C.N = w0.heap.size) (hw : C.w0 = w0) (hσ : C.σ0 = σ0) (hG : ∀ g, C.G g ↔ ¬ Bj T ι0 g) (hS0 : C.S0 = T) (hι0 : C.ι0 = ι0) (R : AM C σ ι s a w) (hc : Ad s.S) {Post : AV → AA → Prop} {b : Bool} (hP : Post (.one (.st (.bool b))) s.S) : JZ σ0 T ι0 w0 Post (.returned (.bool b)) w := by
 have hupd := R.upd
 rw [hS0, hι0] at hupd
 subst hσ hw
 exact ⟨.bool b, _, s.S, σ, ι, rfl, hP, hc, hupd, ⟨R.blk, R.inj⟩, .one (.st .bool), R.fit, R.ext, fun p h1 h2 => R.old p (by rw [hC]; exact h1) (fun h => (hG _).1 h h2), R.os, R.grown.2, fun g h1 h2 => R.same g (by rw [hC]; exact h1) (fun h => (hG _).1 h h2), fun id b g h1 h2 => (R.base id b g h1 h2).imp (fun h => by rw [← hC]; exact h) fun h => (hG _).1 h⟩
theorem IZ {S : AA} {i : Nat} {b c : Option AJ} : AB (AB S i b) i c = AB S i c := by
 funext j
 unfold AB
 split <;> rfl
inductive PO : Code → AX → Prop
 | ret : PO .ret .ret
 | exit (i : Nat) : PO (.exit i) (.exit i)
theorem Kw {fn : FuncId} {ps : Array Tmp} {ca cb : Code} {D : Nat} {n : Nat} {env : List AV} {tmps : Array Value} (hx : Ay P n mu ca = some x) (hy : Ay P n mu cb = some y) (hn : env.length = n) {yb : Nat} (hyb : 1000 ≤ yb) {rec : LoopState → Option Code → Loop} (hrec : rec = fun st pe => { state := st, pending := pe, fn, tmps, params := ps, assign := ca, body := cb, defers := D }) {vs : List AV} (hps : vs.length = ps.size)
  {U : AA} (hU : U yb = none) {N : AA → Prop} {Jx : AX → AA → Prop}
  (h : Ad (AB U yb (some (.loop env (rec .ready none)))) → ∀ C' : Ctx, C'.n = n → IWP P C' mu x (AX.then (fun s1 => s1.S yb = some (.loop env (rec .ready none)) ∧ IWP P C' mu y (JE C' yb (.loop env (rec .busy none)) N Jx) (s1.set yb (.loop env (rec .busy none)))) fun _ _ => False) ⟨G5 (fun i => (env[i]?).getD .any) ps.toList vs, AB U yb (some (.loop env (rec .ready none)))⟩) :
  Cv P (.one (.yld yb)) vs (AB U yb (some (.loop env (rec .ready none)))) fun r T' => (r = .one (.st (.bool true)) ∧ ∃ U', T' = AB U' yb (some (.loop env (rec .ready none))) ∧ U' yb = none ∧ N U') ∨
   (r = .one (.st (.bool false)) ∧ ∃ U' c e, T' = AB U' yb (some (.loop env (rec .done (some c)))) ∧ U' yb = none ∧ PO c e ∧ Jx e U') := by
 intro hclean σ w vy xs ι hglob hfit hown hvy hxs
 obtain ⟨T, hT⟩ : ∃ T, AB U yb (some (.loop env (rec .ready none))) = T := ⟨_, rfl⟩
 have hTy : T yb = some (.loop env (rec .ready none)) := by rw [← hT]; exact AD _ _ _
 rw [hT] at hclean hown hvy hxs h ⊢
 have hhigh := (hclean _ _ hTy).2
 have hb := hown.1 _ _ hTy
 obtain ⟨l, hl, rfl⟩ : ∃ l, (ι yb).g = some l ∧ vy = .func (.yield l) #[] #[] := by
  cases hvy with
  | one hv =>
   cases hv with
   | yld k1 k2 k3 k4 =>
    rw [hTy] at k1
    cases k1
    exact k4 rfl
 have hlen := hxs.len
 cases hb with
 | loop k1 k2 k3 k4 k5 =>
 rw [hl] at k1
 cases k1
 have htm : (rec .ready none).tmps = tmps := by rw [hrec]
 refine ⟨l, rfl, fun ro => ⟨fn, _, ca, cb, by
  have := run_yield (P := P) (args := xs.toArray) k2 (by rw [hrec]; simp; omega)
  rw [hrec] at this
  exact this, ?_⟩⟩
 let C' : Ctx := ⟨n, w.heap.size, fun g => ¬ Bj T ι g, σ, w, T, ι, hclean, hglob, [], some l, false⟩
 have hset := I6 (σ := σ) (S := T) (ι := ι) (n := n) (ps := ps.toList) (env := fun i => (env[i]?).getD .any) (tmps := tmps) hxs (by rw [htm] at k3; omega) fun i hi => by
  have hi' : i < env.length := by omega
  have := k4 i _ (List.getElem?_eq_getElem hi')
  rw [htm] at this
  simpa [hi'] using this
 have hfold : (ps.zip xs.toArray).foldl (fun t (p, v) => t.setIfInBounds p v) tmps = (ps.toList.zip xs).foldl (fun t (p, v) => t.setIfInBounds p v) tmps := by
  rw [← Array.foldl_toList, Array.toList_zip]
 have R0 : AM C' σ ι ⟨G5 (fun i => (env[i]?).getD .any) ps.toList vs, T⟩ { tmps := (ps.zip xs.toArray).foldl (fun t (p, v) => t.setIfInBounds p v) tmps, defers := [] } w := by
  refine ⟨?_, fun i hi => ?_, Ec, hfit, hown.1, hown.2, fun id b g h hg => .inr (fun hno => hno id b h hg), fun _ _ h => h, fun _ _ _ => rfl, ⟨rfl, rfl, rfl⟩, ⟨Nat.le_refl _, Nat.le_refl _⟩, fun _ _ _ => rfl, Upd.refl _ _⟩
  ·dsimp only
   rw [hfold]
   exact hset.1
  ·dsimp only
   rw [hfold]
   exact hset.2 i hi
 refine roundIn_of_wpIn (F := fen ro) (n := 0) trivial (wpIn_mono (h hclean C' rfl ca hx _ w ⟨σ, ι, R0⟩) fun e a1 w1 he => ?_)
 have same : ∀ {σ1 : Sto} {ι1 : Ah} {s1 : AS} {a1 : Act} {w1 : World} {b : AJ}, AM C' σ1 ι1 s1 a1 w1 → s1.S yb = some b → b.len = 1 → (ι1 yb).g = some l := fun R1 hs hl1 => by
  obtain ⟨b', h1, h2, h3⟩ := R1.upd yb _ hTy
  rw [hs] at h1
  cases h1
  rw [(h3 hl1).2]
  exact hl
 cases e with
 | normal =>
  obtain ⟨s1, ⟨h1, h2⟩, σ1, ι1, R1⟩ := he
  obtain ⟨q1, ι2, R2, _⟩ := R1.setLoop (rec .busy none) h1 (same R1 h1 rfl) (by rw [hrec])
  refine ⟨_, by
   have := run_beginRound (P := P) q1 (by rw [hrec])
   rw [hrec] at this
   exact this, ?_⟩
  have e1 : (w1.putObj l (.loop (rec .busy none))) = w1.putObj l (.loop { state := .busy, pending := none, fn, tmps, params := ps, assign := ca, body := cb, defers := D }) := by rw [hrec]
  rw [← e1]
  refine wpIn_mono (h2 cb hy _ _ ⟨σ1, ι2, R2⟩) fun e3 a3 w3 he3 => ?_
  have fin : ∀ (jump : Option Code) (s3 s4 : AS) (U2 : AA), Aa C' s3 s4 → s4.S = AB U2 yb (some (.loop env (rec .busy none))) → Ad s4.S → Ax C' s3 a3 w3 →
    ∃ σ5 ι5 s5, (Instr.endRound l jump).run P w3 = .ok (.bool jump.isNone) (w3.putObj l (.loop (rec (if jump.isNone then .ready else .done) jump))) ∧ s5.S = AB U2 yb (some (.loop env (rec (if jump.isNone then .ready else .done) jump))) ∧ Ad s5.S ∧ AM C' σ5 ι5 s5 a3 (w3.putObj l (.loop (rec (if jump.isNone then .ready else .done) jump))) := fun jump s3 s4 U2 hg hS hc hH => by
   obtain ⟨σ4, ι4, R4⟩ := hg _ _ hH
   have h4 : s4.S yb = some (.loop env (rec .busy none)) := by rw [hS]; exact AD _ _ _
   obtain ⟨q2, ι5, R5, _⟩ := R4.setLoop (rec (if jump.isNone then .ready else .done) jump) h4 (same R4 h4 rfl) (by rw [hrec])
   refine ⟨σ4, ι5, _, ?_, ?_, ?_, R5⟩
   ·have := run_endRound (P := P) jump q2
    rw [hrec] at this ⊢
    exact this
   ·show AB s4.S yb _ = _
    rw [hS, IZ]
   ·exact A2 hc hyb hhigh
  cases e3 with
  | normal =>
   obtain ⟨s3, ⟨s4, U2, g1, g2, g3, g4, g5⟩, hH⟩ := he3
   obtain ⟨σ5, ι5, s5, f1, f2, f3, R5⟩ := fin none s3 s4 U2 g1 g2 g3 hH
   exact ⟨_, _, f1, Dn (C := C') rfl rfl rfl (fun g => Iff.rfl) rfl rfl R5 f3 (.inl ⟨rfl, U2, f2, g4, g5⟩)⟩
  | ret =>
   obtain ⟨s3, ⟨s4, U2, g1, g2, g3, g4, g5⟩, hH⟩ := he3
   obtain ⟨σ5, ι5, s5, f1, f2, f3, R5⟩ := fin (some .ret) s3 s4 U2 g1 g2 g3 hH
   exact ⟨_, _, f1, Dn (C := C') rfl rfl rfl (fun g => Iff.rfl) rfl rfl R5 f3 (.inr ⟨rfl, U2, _, _, f2, g4, .ret, g5⟩)⟩
  | exit i =>
   obtain ⟨s3, ⟨s4, U2, g1, g2, g3, g4, g5⟩, hH⟩ := he3
   obtain ⟨σ5, ι5, s5, f1, f2, f3, R5⟩ := fin (some (.exit i)) s3 s4 U2 g1 g2 g3 hH
   exact ⟨_, _, f1, Dn (C := C') rfl rfl rfl (fun g => Iff.rfl) rfl rfl R5 f3 (.inr ⟨rfl, U2, _, _, f2, g4, .exit i, g5⟩)⟩
  | panic ch => obtain ⟨s3, v, ⟨⟨s4, U2, g1, g2, g3, g4, g5⟩, _⟩, _⟩ := he3; exact g5.elim
  | _ => exact he3.elim
 | panic ch => obtain ⟨s1, v, h1, h2⟩ := he; exact h1.1.elim
 | ret => obtain ⟨s1, h1, h2⟩ := he; exact h1.elim
 | exit i => obtain ⟨s1, h1, h2⟩ := he; exact h1.elim
 | _ => exact he.elim
def A9 (n : Nat) (env : Nat → AV) : List AV := (List.range n).map env
theorem Eh {n : Nat} {env : Nat → AV} : (A9 n env).length = n := by simp [A9]
theorem Kt {n i : Nat} {env : Nat → AV} {a : AV} (h : (A9 n env)[i]? = some a) : i < n ∧ a = env i := by
 unfold A9 at h
 rw [List.getElem?_map, Option.map_eq_some_iff] at h
 obtain ⟨j, h1, h2⟩ := h
 obtain ⟨h3, h4⟩ := List.getElem?_eq_some_iff.1 h1
 simp at h3 h4
 subst h4
 exact ⟨h3, h2.symm⟩
theorem Es {n : Nat} {c : Code} {g : Opd} {ps : List Nat} (h : Ay P n mu c = some (.rangeF g ps x y)) : ∃ g' ps' ca cb, c = .rangeFunc g' ps' ca cb ∧ AI n g' = some g ∧ ps'.toList = ps ∧ Ay P n mu ca = some x ∧ Ay P n mu cb = some y := by
 cases c <;> simp only [Ay] at h
 case rangeFunc g' ps' ca cb =>
  split at h
  ·rename_i e1 e2 e3
   split at h
   ·cases h
    exact ⟨_, _, _, _, rfl, e1, rfl, e2, e3⟩
   ·cases h
  ·cases h
 all_goals (exfalso; revert h; (repeat' split) <;> simp)
theorem MU {U : AA} {id : Nat} {b c : Option AJ} : AB (dnS (AB U (up1 id) b)) id c = AB (dnS U) id c := by
 funext j
 unfold AB
 by_cases e : j = id
 ·rw [if_pos e, if_pos e]
 ·rw [if_neg e, if_neg e]
  show (if j + 1000 = up1 id then b else U (j + 1000)).map (AJ.ren dn1) = (U (j + 1000)).map (AJ.ren dn1)
  rw [if_neg (show ¬ j + 1000 = up1 id by unfold up1; omega)]
theorem Ca {U : AA} {i : Nat} {b : AJ} (h : Ad (AB U i (some b))) (hU : U i = none) : Ad U := fun j c hc => h j c (by
 rw [AE _ (fun e => by rw [e, hU] at hc; cases hc)]
 exact hc)
def Cm (n : Nat) (env : Nat → AV) : Nat → AV := fun i => if i < n then (env i).ren up1 else .any
theorem J1 {n : Nat} {env : Nat → AV} : (fun i => ((AV.rens up1 (A9 n env))[i]?).getD .any) = Cm n env := by
 funext i
 unfold Cm A9
 rw [AV.rens_eq, List.map_map, List.getElem?_map]
 by_cases h : i < n
 ·rw [if_pos h, List.getElem?_range h]
  rfl
 ·rw [if_neg h, List.getElem?_eq_none (by simp; omega)]
  rfl
theorem IWP.rangeF {g : Opd} {ps : List Nat} (htop : C.Top) (id : Nat) (hid : id < 1000) (hfree : s.S id = none) {f : Nat} {caps : List AC} (hg : s.ev g = .one (.fn f caps)) (hpl : B4 P f = true) {α : Type} {encs : α → List AV} {all : List α} {Need : AA → Prop} (hit : Qi P f (AV.rens up1 (caps.map .one)) Need encs all)
  (hlen : ∀ v, (encs v).length = ps.length) (Inv : List α → AA → Prop) (Jx : AX → AA → Prop) (h0 : Inv [] (upS s.S)) (hneed : ∀ pre U b, Inv pre U → U (up1 id) = none → Need (AB U (up1 id) (some b)))
  (hbody : ∀ (C' : Ctx) (b0 b1 : AJ) (pre : List α) (v : α) (U : AA), C'.n = C.n → (pre ++ [v]) <+: all → Inv pre U → U (up1 id) = none → Ad U → b1.high = true →
   IWP P C' mu x (AX.then (fun s1 => s1.S (up1 id) = some b0 ∧ IWP P C' mu y (JE C' (up1 id) b1 (Inv (pre ++ [v])) Jx) (s1.set (up1 id) b1)) fun _ _ => False) ⟨G5 (Cm C.n s.env) ps (encs v), AB U (up1 id) (some b0)⟩)
  (hdone : ∀ U, Inv all U → Q .normal ⟨s.env, AB (dnS U) id (some (.dead 1 0))⟩) (hjump : ∀ e U, Jx e U → Q e ⟨s.env, AB (dnS U) id (some (.dead 1 0))⟩) : IWP P C mu (.rangeF g ps x y) Q s := fun c hc a w hH => by
 obtain ⟨g', ps', ca, cb, rfl, hg', rfl, hx, hy⟩ := Es hc
 obtain ⟨σ, ι, R⟩ := hH
 have rg := R.ev hg'
 rw [hg] at rg
 replace rg := AP rg
 generalize hev : a.eval g' = fv at rg
 cases rg with
 | @fn _ vc _ cc g1 g2 g3 =>
 refine wpIn_rangeFunc fun fn hfn => ?_
 obtain ⟨rec, hrec⟩ : ∃ rec : LoopState → Option Code → Loop, rec = fun st pe => { state := st, pending := pe, fn, tmps := a.tmps, params := ps', assign := ca, body := cb, defers := w.heap.size } := ⟨_, rfl⟩
 obtain ⟨w1, hw1⟩ : ∃ w1, (w.alloc (.deferred (some []))).alloc (.loop (rec .ready none)) = w1 := ⟨_, rfl⟩
 have hsz : (w.alloc (.deferred (some []))).heap.size = w.heap.size + 1 := World.size_alloc _ _
 have R1 : AM C σ ι s { a with defers := H3 w.heap.size :: a.defers } (w.alloc (.deferred (some []))) := by
  have R' := R.more (w' := w.alloc (.deferred (some []))) (Ext.refl _ _) (R.fit.alloc _) (Cp.alloc _ _)
  refine { R' with nod := ?_ }
  obtain ⟨l, h1, h2, h3, _⟩ := R.nod
  refine ⟨w.heap.size :: l, by show _ :: a.defers = _; rw [h1]; rfl, List.nodup_cons.2 ⟨fun hm => ?_, h2⟩, fun D hD => ?_, fun hm => by rw [htop.2] at hm; cases hm⟩
  ·have := (Array.getElem?_eq_some_iff.1 (h3 _ hm).2).1
   omega
  ·rcases List.mem_cons.1 hD with rfl | hD
   ·exact ⟨R.grown.1, World.alloc_heap_new w _⟩
   ·exact ⟨(h3 D hD).1, (Below.heap_alloc _ _ _ (Array.getElem?_eq_some_iff.1 (h3 D hD).2).1).trans (h3 D hD).2⟩
 have hsize := R.size
 obtain ⟨hu2, R2⟩ := R1.fresh (w' := w1) hfree (.loop (A9 C.n s.env) (rec .ready none)) ⟨none, 0, some (w.heap.size + 1)⟩ (Ext.refl _ _) (by rw [← hw1]; exact R1.fit.alloc _) (by rw [← hw1]; exact Cp.alloc _ _) (fun g hg => by cases hg; omega) (fun S' ι' hu => .loop (g := w.heap.size + 1) rfl (by rw [← hw1, ← hsz]; exact World.alloc_heap_new _ _) (by rw [Eh, hrec]; exact hsize) (fun j b hb => by
   obtain ⟨hj, rfl⟩ := Kt hb
   rw [hrec]
   exact (R.env j hj).mono (fun _ _ h => h) hu) (fun p hp => R1.fit.no (by rw [hsz]; omega)))
 have hl2 : (AB ι id (⟨none, 0, some (w.heap.size + 1)⟩ : Hnd) id).g = some (w.heap.size + 1) := by rw [AD]
 generalize AB ι id (⟨none, 0, some (w.heap.size + 1)⟩ : Hnd) = ι2 at R2 hl2 hu2
 obtain ⟨ι3, hι3, hown, hren, hend⟩ := R2.upped
 have hargs : AU (AO σ (upS (s.set id (.loop (A9 C.n s.env) (rec .ready none))).S) ι3) (.func (.yield (w.heap.size + 1)) #[] #[] :: vc.toList) (.one (.yld (up1 id)) :: AV.rens up1 (caps.map .one)) := by
  have hS2 : (s.set id (.loop (A9 C.n s.env) (rec .ready none))).S id = some (.loop (A9 C.n s.env) (rec .ready none)) := AD _ _ _
  refine .cons (hren _ _ (.one (.yld hS2 (Nat.le_refl _) rfl fun _ => ⟨_, hl2, rfl⟩))) ?_
  rw [AV.rens_eq]
  refine (AU.mono (fun v c h => hren v c h) ?_).map_right
  refine (AU.of_get (R := fun v c => AO σ (s.set id (.loop (A9 C.n s.env) (rec .ready none))).S ι2 v (.one c)) (by simpa using g1) fun j v b hv hb => ?_).map_right
  have e := g2 j b hb
  have e2 : vc.toList[j]? = some (cc j) := by simpa using e
  rw [hv] at e2
  cases e2
  exact .one ((g3 j b hb).mono (fun _ _ h => h) hu2)
 have hcl := En (s.set id (.loop (A9 C.n s.env) (rec .ready none))).S
 have hTeq : upS (s.set id (.loop (A9 C.n s.env) (rec .ready none))).S = AB (upS s.S) (up1 id) (some (.loop (AV.rens up1 (A9 C.n s.env)) (rec .ready none))) := Ml _ _ _
 have hcall := hit (up1 id) (fun pre T => ∃ U, T = AB U (up1 id) (some (.loop (AV.rens up1 (A9 C.n s.env)) (rec .ready none))) ∧ U (up1 id) = none ∧ Inv pre U)
  (fun T => ∃ U c e, T = AB U (up1 id) (some (.loop (AV.rens up1 (A9 C.n s.env)) (rec .done (some c)))) ∧ U (up1 id) = none ∧ PO c e ∧ Jx e U)
  _ (BY id) (fun pre T hT => by
   obtain ⟨U, rfl, hU, hI⟩ := hT
   exact hneed pre U _ hI hU) (fun pre v hpre T hT => by
   obtain ⟨U, rfl, hU, hI⟩ := hT
   exact Kw hx hy (by rw [AV.rens_eq, List.length_map, Eh]) (BY id) hrec (by rw [hlen]; simp) hU fun hc C' hC' => by
    rw [J1]
    exact hbody C' _ (.loop (AV.rens up1 (A9 C.n s.env)) (rec .busy none)) pre v U hC' hpre hI hU (Ca hc hU) (AV.rens_high _))
  ⟨_, hTeq, by rw [CR, hfree]; rfl, h0⟩ hcl σ w1 _ ι3 (C.glob.mono R.ext) R2.fit hown hargs
 refine ⟨w.heap.size + 1, [H3 w.heap.size], w1, { target := .fn (.func f) vc, args := #[.func (.yield (w.heap.size + 1)) #[] #[]] }, w1, f, #[.func (.yield (w.heap.size + 1)) #[] #[]] ++ vc, w1, ?_, ?_, fun _ _ => trivial, ?_, fun h => by simp [fen, Fence.wide] at h, ?_⟩
 ·have hr : (fen C.ro).round = none := htop.1
  rw [hr, ← hw1, hrec]
  exact run_enterLoop_outer _ _ _ _ _
 ·simp only [resolve, hev]
  simp [go_sem]
 ·have := CU (P := P) (w := w1) (args := #[.func (.yield (w.heap.size + 1)) #[] #[]] ++ vc) hpl
  simp [invoke, go_sem, this]
 ·have he0 : (Value.func (.yield (w.heap.size + 1)) #[] #[] :: vc.toList).toArray = #[.func (.yield (w.heap.size + 1)) #[] #[]] ++ vc := by
   apply Array.ext'
   simp
  rw [he0] at hcall
  refine EN (hcall.mono fun e w2 he => ?_)
  obtain ⟨v, r, S', σ', ι4, rfl, hP, hS', hu4, R4⟩ := hend he
  have hl4 : ∀ {b : AJ}, dnS S' id = some b → b.len = 1 → (ι4 id).g = some (w.heap.size + 1) := fun hb hb1 => by
   obtain ⟨b', h1, h2, h3⟩ := hu4 id _ (show (s.set id (.loop (A9 C.n s.env) (rec .ready none))).S id = some _ from AD _ _ _)
   rw [hb] at h1
   cases h1
   rw [(h3 hb1).2]
   exact hl2
  have fin : ∀ (U : AA) (env : List AV) (st : LoopState) (pe : Option Code), st ≠ .busy → S' = AB U (up1 id) (some (.loop env (rec st pe))) → ∃ w3, (Instr.endLoop (w.heap.size + 1)).run P w2 = .ok pe w3 ∧ Ax C ⟨s.env, AB (dnS U) id (some (.dead 1 0))⟩ { a with defers := H3 w.heap.size :: a.defers } w3 := fun U env st pe hst hS => by
   have hb : dnS S' id = some (.loop (AV.rens dn1 env) (rec st pe)) := by
    have := Fv (BY id) (show S' (up1 id) = some (.loop env (rec st pe)) by rw [hS]; exact AD _ _ _)
    rw [Ge] at this
    exact this
   have hg4 := hl4 hb rfl
   cases hbr : R4.blk id _ hb with
   | loop k1 k2 k3 k4 k5 =>
    rw [hg4] at k1
    cases k1
    obtain ⟨ι5, R5, _⟩ := R4.setBlk (b' := .dead 1 0) (o' := .loop { rec st pe with state := .exhausted }) hb hg4 k2 k5 rfl rfl fun S'' ι'' hu => .dead fun g' hg' => by
     rw [hg4] at hg'
     cases hg'
     exact ⟨_, (CL k2).1, rfl⟩
    refine ⟨w2.putObj (w.heap.size + 1) (.loop { rec st pe with state := .exhausted }), ?_, σ', ι5, ?_⟩
    ·have := run_endLoop (P := P) k2 (by rw [hrec]; exact hst)
     rw [hrec] at this ⊢
     exact this
    ·have e5 : (AS.set ⟨(s.set id (.loop (A9 C.n s.env) (rec .ready none))).env, dnS S'⟩ id (.dead 1 0)) = ⟨s.env, AB (dnS U) id (some (.dead 1 0))⟩ := by
      show AS.mk s.env (AB (dnS S') id _) = _
      rw [hS, MU]
     rw [← e5]
     exact R5
  rcases hP with ⟨U, h1, h2, h3⟩ | ⟨U, c, e, h1, h2, h3, h4⟩
  ·obtain ⟨w3, f1, f2⟩ := fin U _ .ready none (by simp) h1
   exact ⟨none, w3, f1, _, hdone U h3, f2⟩
  ·obtain ⟨w3, f1, f2⟩ := fin U _ .done (some c) (by simp) h1
   refine ⟨some c, w3, f1, ?_⟩
   cases h3 with
   | ret => exact wpIn_ret ⟨_, hjump _ U h4, f2⟩
   | exit i => exact wpIn_exit ⟨_, hjump _ U h4, f2⟩
end

theorem AM.move {C : Ctx} {σ : Sto} {ι : Ah} {s : AS} {a : Act} {w : World} (R : AM C σ ι s a w) {id nid N wd : Nat} {b b' : AJ} {h' : Hnd} (hid : s.S id = some b) (hn : s.S nid = none) (hN : b.len < N) (hg : ∀ g, h'.g = some g → (ι id).g = some g) (hb' : ∀ S' ι', BR σ S' ι' w h' b') :
  Upd s.S ι (AB (AB s.S id (some (.dead N wd))) nid (some b')) (AB (AB ι id ⟨none, 0, none⟩) nid h') ∧ AM C σ (AB (AB ι id ⟨none, 0, none⟩) nid h') ⟨s.env, AB (AB s.S id (some (.dead N wd))) nid (some b')⟩ a w := by
 have n1 : nid ≠ id := fun e => by subst e; rw [hid] at hn; cases hn
 obtain ⟨S2, hS2⟩ : ∃ S2, AB (AB s.S id (some (.dead N wd))) nid (some b') = S2 := ⟨_, rfl⟩
 obtain ⟨ι2, hι2⟩ : ∃ ι2 : Ah, AB (AB ι id ⟨none, 0, none⟩) nid h' = ι2 := ⟨_, rfl⟩
 rw [hS2, hι2]
 have sn : S2 nid = some b' := by rw [← hS2, AD]
 have si : S2 id = some (.dead N wd) := by rw [← hS2, AE _ n1.symm, AD]
 have so : ∀ i, i ≠ nid → i ≠ id → S2 i = s.S i := fun i h2 h3 => by rw [← hS2, AE _ h2, AE _ h3]
 have ιn : ι2 nid = h' := by rw [← hι2, AD]
 have ιi : ι2 id = ⟨none, 0, none⟩ := by rw [← hι2, AE _ n1.symm, AD]
 have ιo : ∀ i, i ≠ nid → i ≠ id → ι2 i = ι i := fun i h2 h3 => by rw [← hι2, AE _ h2, AE _ h3]
 have hu : Upd s.S ι S2 ι2 := fun i b h => by
  by_cases e2 : i = id
  ·subst e2
   rw [hid] at h
   cases h
   exact ⟨_, si, Nat.le_of_lt hN, fun hl => absurd (show N = _ from hl) (by omega)⟩
  ·have e3 : i ≠ nid := fun e3 => by subst e3; rw [hn] at h; cases h
   exact ⟨b, (so i e3 e2).trans h, Nat.le_refl _, fun _ => ⟨rfl, ιo i e3 e2⟩⟩
 have old : ∀ i b, S2 i = some b → ∀ g, (ι2 i).g = some g → ∃ i' b', s.S i' = some b' ∧ (ι i').g = some g ∧ (i = nid ∧ i' = id ∨ i' = i ∧ i ≠ nid ∧ i ≠ id) := fun i b h g hg1 => by
  by_cases e2 : i = id
  ·subst e2
   rw [ιi] at hg1
   cases hg1
  ·by_cases e3 : i = nid
   ·subst e3
    rw [ιn] at hg1
    exact ⟨id, _, hid, hg g hg1, .inl ⟨rfl, rfl⟩⟩
   ·rw [ιo i e3 e2] at hg1
    exact ⟨i, b, (so i e3 e2).symm.trans h, hg1, .inr ⟨rfl, e3, e2⟩⟩
 refine ⟨hu, R.size, fun i hi => (R.env i hi).mono (fun _ _ h => h) hu, R.nod, R.fit, fun i b h => ?_, fun i i' b b' g h1 h2 g1 g2 => ?_, fun i b g h hg1 => ?_, R.ext, R.old, R.os, R.grown, R.same, R.upd.trans hu⟩
 ·change S2 i = some b at h
  by_cases e2 : i = id
  ·subst e2
   rw [si] at h
   cases h
   rw [ιi]
   exact .dead fun g hg => by cases hg
  ·by_cases e3 : i = nid
   ·subst e3
    rw [sn] at h
    cases h
    rw [ιn]
    exact hb' _ _
   ·rw [ιo i e3 e2]
    exact (R.blk i b ((so i e3 e2).symm.trans h)).mono (fun _ _ h => h) hu (fun _ _ => rfl) (fun _ _ _ _ => rfl)
 ·obtain ⟨j1, c1, k1, k2, k3⟩ := old i b h1 g g1
  obtain ⟨j2, c2, l1, l2, l3⟩ := old i' b' h2 g g2
  have := R.inj _ _ _ _ g k1 l1 k2 l2
  rcases k3 with ⟨a1, a2⟩ | ⟨a1, a2, a3⟩ <;> rcases l3 with ⟨b1, b2⟩ | ⟨b1, b2, b3⟩
  ·rw [a1, b1]
  ·exact absurd (by rw [← b1, ← this, a2] : i' = id) b3
  ·exact absurd (by rw [← a1, this, b2] : i = id) a3
  ·rw [← a1, ← b1, this]
 ·obtain ⟨j1, c1, k1, k2, _⟩ := old i b h g hg1
  exact R.base _ _ g k1 k2
theorem Np {σ : Sto} {S : AA} {ι : Ah} {v : Value} {id n : Nat} (h : AY σ S ι v (.row id n)) : ∃ b, S id = some b ∧ n ≤ b.len ∧ v.oneCell' = true ∧ (n = b.len → v = .slice (ι id).p n (ι id).cap) := by
 cases h with
 | row h1 h2 h3 h4 => exact ⟨_, h1, h2, h3, h4⟩

def Pj (P : Program) (f : FuncId) (caps : List AV) (Need : AA → Prop) {α : Type} (e : TypeId) (wd : Nat) (enc : α → List (List SV)) (all : List α) : Prop :=
 ∀ (y rid : Nat) (Inv : List α → AA → Prop) (Jx : AA → Prop) (T : AA), 1000 ≤ y → 1000 ≤ rid → (∀ pre T, Inv pre T → Need T) → (∀ pre T, Inv pre T → T rid = none) →
  (∀ pre v, (pre ++ [v]) <+: all → ∀ T, Inv pre T → Cv P (.one (.yld y)) [.one (.row rid (enc v).length)] (AB T rid (some (.mrow e wd (enc v)))) fun r T' => ∃ V, T' = AB V rid (some (.mrow e wd (enc v))) ∧ V rid = none ∧ ((r = .one (.st (.bool true)) ∧ Inv (pre ++ [v]) V) ∨ (r = .one (.st (.bool false)) ∧ Jx V))) →
  Inv [] T → Ei P f (.one (.yld y) :: caps) T fun _ T' => ∃ V b, T' = AB V rid (some b) ∧ (Inv all V ∨ Jx V)
theorem Cv.mono {P : Program} {y : AV} {xs : List AV} {S : AA} {Post Post' : AV → AA → Prop} (h : Cv P y xs S Post) (hp : ∀ r T, Post r T → Post' r T) : Cv P y xs S Post' := by
 have he : ∀ {σ : Sto} {ι : Ah} {w : World} {e : Ending} {w' : World}, JZ σ S ι w Post e w' → JZ σ S ι w Post' e w' := fun h => by
  obtain ⟨v, r, S', σ', ι', h1, h2, h3⟩ := h
  exact ⟨v, r, S', σ', ι', h1, hp r S' h2, h3⟩
 intro hS σ w vy vs ι h1 h2 h3 h4 h5
 obtain ⟨l, hl, hy⟩ := h hS σ w vy vs ι h1 h2 h3 h4 h5
 refine ⟨l, hl, fun ro => ?_⟩
 obtain ⟨fn, tm, ca, cb, h6, h7⟩ := hy ro
 exact ⟨fn, tm, ca, cb, h6, h7.mono fun _ _ h => he h⟩
theorem Aa.renameM {C : Ctx} {s : AS} (t id nid N : Nat) {e : TypeId} {wd : Nat} {xs : List (List SV)} (hid : s.S id = some (.mrow e wd xs)) (ht : s.env t = .one (.row id xs.length)) (hn : s.S nid = none) (hN : xs.length < N) (htn : t < C.n) :
  Aa C s ⟨AB s.env t (.one (.row nid xs.length)), AB (AB s.S id (some (.dead N wd))) nid (some (.mrow e wd xs))⟩ := fun a w ⟨σ, ι, R⟩ => by
 have hv := R.env t htn
 rw [ht] at hv
 obtain ⟨b0, q1, q2, q3, q4⟩ := Np (AP hv)
 ·rw [hid] at q1
  cases q1
  have hb := R.blk _ _ hid
  have hbb : ∀ S' ι', BR σ S' ι' w (ι id) (.mrow e wd xs) := fun S' ι' => by
   cases hb with
   | mnil h1 h2 => exact .mnil h1 h2
   | mrow h1 h2 h3 h4 h5 h6 h7 h8 h9 => exact .mrow h1 h2 h3 h4 h5 h6 h7 h8 h9
  obtain ⟨hu, R'⟩ := R.move (N := N) (wd := wd) hid hn hN (fun g hg => hg) hbb
  refine ⟨σ, _, { R' with env := fun i hi => ?_ }⟩
  show AO σ _ _ _ (AB s.env t _ i)
  by_cases hi' : i = t
  ·subst hi'
   rw [AD]
   refine .one (.row (b := .mrow e wd xs) (AD _ _ _) (Nat.le_refl _) q3 fun _ => ?_)
   rw [AD]
   exact q4 rfl
  ·rw [AE _ hi']
   exact R'.env i hi
section
variable {P : Program} {C : Ctx} {mu : List Nat} {Q : AX → AS → Prop} {s : AS} {x y : IR}
theorem OB {U : AA} {r : Nat} {b : AJ} : dnS (AB U (up1 r) (some b)) = AB (dnS U) r (some (b.ren dn1)) := by
 funext j
 unfold AB
 by_cases e : j = r
 ·rw [if_pos e]
  show (if j + 1000 = up1 r then some b else U (j + 1000)).map (AJ.ren dn1) = _
  rw [if_pos (show j + 1000 = up1 r by unfold up1; omega)]
  rfl
 ·rw [if_neg e]
  show (if j + 1000 = up1 r then some b else U (j + 1000)).map (AJ.ren dn1) = (U (j + 1000)).map (AJ.ren dn1)
  rw [if_neg (show ¬ j + 1000 = up1 r by unfold up1; omega)]
theorem IWP.rangeW {g : Opd} {ps : List Nat} (htop : C.Top) (id : Nat) (hid : id < 1000) (hfree : s.S id = none) {f : Nat} {caps : List AC} (hg : s.ev g = .one (.fn f caps)) (hpl : B4 P f = true) (r0 : Nat) (hne0 : r0 ≠ id) {α : Type} {e : TypeId} {wd : Nat} {enc : α → List (List SV)} {all : List α} {Need : AA → Prop} (hit : Pj P f (AV.rens up1 (caps.map .one)) Need e wd enc all)
  (hlen : ps.length = 1) (Inv : List α → AA → Prop) (Jx : AX → AA → Prop) (h0 : Inv [] (upS s.S)) (hfr : ∀ pre U, Inv pre U → U (up1 r0) = none) (hneed : ∀ pre U b, Inv pre U → U (up1 id) = none → Need (AB U (up1 id) (some b)))
  (hbody : ∀ (C' : Ctx) (b0 b1 : AJ) (pre : List α) (v : α) (U : AA), C'.n = C.n → (pre ++ [v]) <+: all → Inv pre U → U (up1 id) = none → Ad U → b1.high = true →
   IWP P C' mu x (AX.then (fun s1 => s1.S (up1 id) = some b0 ∧ IWP P C' mu y (JE C' (up1 id) b1 (fun V => ∃ V', V = AB V' (up1 r0) (some (.mrow e wd (enc v))) ∧ V' (up1 r0) = none ∧ Inv (pre ++ [v]) V') fun x V => ∃ V', V = AB V' (up1 r0) (some (.mrow e wd (enc v))) ∧ V' (up1 r0) = none ∧ Jx x V') (s1.set (up1 id) b1)) fun _ _ => False) ⟨G5 (Cm C.n s.env) ps [.one (.row (up1 r0) (enc v).length)], AB (AB U (up1 r0) (some (.mrow e wd (enc v)))) (up1 id) (some b0)⟩)
  (hdone : ∀ U b, Inv all U → Q .normal ⟨s.env, AB (AB (dnS U) r0 (some b)) id (some (.dead 1 0))⟩) (hjump : ∀ e U b, Jx e U → Q e ⟨s.env, AB (AB (dnS U) r0 (some b)) id (some (.dead 1 0))⟩) : IWP P C mu (.rangeF g ps x y) Q s := fun c hc a w hH => by
 have hne : up1 r0 ≠ up1 id := fun h => hne0 (by unfold up1 at h; omega)
 obtain ⟨g', ps', ca, cb, rfl, hg', rfl, hx, hy⟩ := Es hc
 obtain ⟨σ, ι, R⟩ := hH
 have rg := R.ev hg'
 rw [hg] at rg
 replace rg := AP rg
 generalize hev : a.eval g' = fv at rg
 cases rg with
 | @fn _ vc _ cc g1 g2 g3 =>
 refine wpIn_rangeFunc fun fn hfn => ?_
 obtain ⟨rec, hrec⟩ : ∃ rec : LoopState → Option Code → Loop, rec = fun st pe => { state := st, pending := pe, fn, tmps := a.tmps, params := ps', assign := ca, body := cb, defers := w.heap.size } := ⟨_, rfl⟩
 obtain ⟨w1, hw1⟩ : ∃ w1, (w.alloc (.deferred (some []))).alloc (.loop (rec .ready none)) = w1 := ⟨_, rfl⟩
 have hsz : (w.alloc (.deferred (some []))).heap.size = w.heap.size + 1 := World.size_alloc _ _
 have R1 : AM C σ ι s { a with defers := H3 w.heap.size :: a.defers } (w.alloc (.deferred (some []))) := by
  have R' := R.more (w' := w.alloc (.deferred (some []))) (Ext.refl _ _) (R.fit.alloc _) (Cp.alloc _ _)
  refine { R' with nod := ?_ }
  obtain ⟨l, h1, h2, h3, _⟩ := R.nod
  refine ⟨w.heap.size :: l, by show _ :: a.defers = _; rw [h1]; rfl, List.nodup_cons.2 ⟨fun hm => ?_, h2⟩, fun D hD => ?_, fun hm => by rw [htop.2] at hm; cases hm⟩
  ·have := (Array.getElem?_eq_some_iff.1 (h3 _ hm).2).1
   omega
  ·rcases List.mem_cons.1 hD with rfl | hD
   ·exact ⟨R.grown.1, World.alloc_heap_new w _⟩
   ·exact ⟨(h3 D hD).1, (Below.heap_alloc _ _ _ (Array.getElem?_eq_some_iff.1 (h3 D hD).2).1).trans (h3 D hD).2⟩
 have hsize := R.size
 obtain ⟨hu2, R2⟩ := R1.fresh (w' := w1) hfree (.loop (A9 C.n s.env) (rec .ready none)) ⟨none, 0, some (w.heap.size + 1)⟩ (Ext.refl _ _) (by rw [← hw1]; exact R1.fit.alloc _) (by rw [← hw1]; exact Cp.alloc _ _) (fun g hg => by cases hg; omega) (fun S' ι' hu => .loop (g := w.heap.size + 1) rfl (by rw [← hw1, ← hsz]; exact World.alloc_heap_new _ _) (by rw [Eh, hrec]; exact hsize) (fun j b hb => by
   obtain ⟨hj, rfl⟩ := Kt hb
   rw [hrec]
   exact (R.env j hj).mono (fun _ _ h => h) hu) (fun p hp => R1.fit.no (by rw [hsz]; omega)))
 have hl2 : (AB ι id (⟨none, 0, some (w.heap.size + 1)⟩ : Hnd) id).g = some (w.heap.size + 1) := by rw [AD]
 generalize AB ι id (⟨none, 0, some (w.heap.size + 1)⟩ : Hnd) = ι2 at R2 hl2 hu2
 obtain ⟨ι3, hι3, hown, hren, hend⟩ := R2.upped
 have hargs : AU (AO σ (upS (s.set id (.loop (A9 C.n s.env) (rec .ready none))).S) ι3) (.func (.yield (w.heap.size + 1)) #[] #[] :: vc.toList) (.one (.yld (up1 id)) :: AV.rens up1 (caps.map .one)) := by
  have hS2 : (s.set id (.loop (A9 C.n s.env) (rec .ready none))).S id = some (.loop (A9 C.n s.env) (rec .ready none)) := AD _ _ _
  refine .cons (hren _ _ (.one (.yld hS2 (Nat.le_refl _) rfl fun _ => ⟨_, hl2, rfl⟩))) ?_
  rw [AV.rens_eq]
  refine (AU.mono (fun v c h => hren v c h) ?_).map_right
  refine (AU.of_get (R := fun v c => AO σ (s.set id (.loop (A9 C.n s.env) (rec .ready none))).S ι2 v (.one c)) (by simpa using g1) fun j v b hv hb => ?_).map_right
  have e := g2 j b hb
  have e2 : vc.toList[j]? = some (cc j) := by simpa using e
  rw [hv] at e2
  cases e2
  exact .one ((g3 j b hb).mono (fun _ _ h => h) hu2)
 have hcl := En (s.set id (.loop (A9 C.n s.env) (rec .ready none))).S
 have hTeq : upS (s.set id (.loop (A9 C.n s.env) (rec .ready none))).S = AB (upS s.S) (up1 id) (some (.loop (AV.rens up1 (A9 C.n s.env)) (rec .ready none))) := Ml _ _ _
 have hcall := hit (up1 id) (up1 r0) (fun pre T => ∃ U, T = AB U (up1 id) (some (.loop (AV.rens up1 (A9 C.n s.env)) (rec .ready none))) ∧ U (up1 id) = none ∧ Inv pre U)
  (fun T => ∃ U c e, T = AB U (up1 id) (some (.loop (AV.rens up1 (A9 C.n s.env)) (rec .done (some c)))) ∧ U (up1 id) = none ∧ PO c e ∧ Jx e U)
  _ (BY id) (BY r0) (fun pre T hT => by
   obtain ⟨U, rfl, hU, hI⟩ := hT
   exact hneed pre U _ hI hU) (fun pre T hT => by
   obtain ⟨U, rfl, hU, hI⟩ := hT
   rw [AE _ hne]
   exact hfr pre U hI) (fun pre v hpre T hT => by
   obtain ⟨U, rfl, hU, hI⟩ := hT
   have hUr := hfr pre U hI
   have hy0 : (AB U (up1 r0) (some (.mrow e wd (enc v)))) (up1 id) = none := by rw [AE _ hne.symm]; exact hU
   rw [Am (Ne.symm hne)]
   refine Cv.mono (Kw hx hy (by rw [AV.rens_eq, List.length_map, Eh]) (BY id) hrec (by simpa using hlen.symm) hy0 fun hc C' hC' => by
    rw [J1]
    exact hbody C' _ (.loop (AV.rens up1 (A9 C.n s.env)) (rec .busy none)) pre v U hC' hpre hI hU (Ca (Ca hc hy0) hUr) (AV.rens_high _)) fun r T' hT' => ?_
   rcases hT' with ⟨rfl, U', rfl, h1, V', rfl, h3, h4⟩ | ⟨rfl, U', c, ex, rfl, h1, hj, V', rfl, h3, h4⟩
   ·rw [AE _ hne.symm] at h1
    refine ⟨AB V' (up1 id) (some (.loop (AV.rens up1 (A9 C.n s.env)) (rec .ready none))), Am hne, by rw [AE _ hne]; exact h3, .inl ⟨rfl, V', rfl, h1, h4⟩⟩
   ·rw [AE _ hne.symm] at h1
    refine ⟨AB V' (up1 id) (some (.loop (AV.rens up1 (A9 C.n s.env)) (rec .done (some c)))), Am hne, by rw [AE _ hne]; exact h3, .inr ⟨rfl, V', c, ex, rfl, h1, hj, h4⟩⟩)
  ⟨_, hTeq, by rw [CR, hfree]; rfl, h0⟩ hcl σ w1 _ ι3 (C.glob.mono R.ext) R2.fit hown hargs
 refine ⟨w.heap.size + 1, [H3 w.heap.size], w1, { target := .fn (.func f) vc, args := #[.func (.yield (w.heap.size + 1)) #[] #[]] }, w1, f, #[.func (.yield (w.heap.size + 1)) #[] #[]] ++ vc, w1, ?_, ?_, fun _ _ => trivial, ?_, fun h => by simp [fen, Fence.wide] at h, ?_⟩
 ·have hr : (fen C.ro).round = none := htop.1
  rw [hr, ← hw1, hrec]
  exact run_enterLoop_outer _ _ _ _ _
 ·simp only [resolve, hev]
  simp [go_sem]
 ·have := CU (P := P) (w := w1) (args := #[.func (.yield (w.heap.size + 1)) #[] #[]] ++ vc) hpl
  simp [invoke, go_sem, this]
 ·have he0 : (Value.func (.yield (w.heap.size + 1)) #[] #[] :: vc.toList).toArray = #[.func (.yield (w.heap.size + 1)) #[] #[]] ++ vc := by
   apply Array.ext'
   simp
  rw [he0] at hcall
  refine EN (hcall.mono fun e w2 he => ?_)
  obtain ⟨v, r, S', σ', ι4, rfl, hP, hS', hu4, R4⟩ := hend he
  have hl4 : ∀ {b : AJ}, dnS S' id = some b → b.len = 1 → (ι4 id).g = some (w.heap.size + 1) := fun hb hb1 => by
   obtain ⟨b', h1, h2, h3⟩ := hu4 id _ (show (s.set id (.loop (A9 C.n s.env) (rec .ready none))).S id = some _ from AD _ _ _)
   rw [hb] at h1
   cases h1
   rw [(h3 hb1).2]
   exact hl2
  have fin : ∀ (U : AA) (env : List AV) (st : LoopState) (pe : Option Code), st ≠ .busy → S' = AB U (up1 id) (some (.loop env (rec st pe))) → ∃ w3, (Instr.endLoop (w.heap.size + 1)).run P w2 = .ok pe w3 ∧ Ax C ⟨s.env, AB (dnS U) id (some (.dead 1 0))⟩ { a with defers := H3 w.heap.size :: a.defers } w3 := fun U env st pe hst hS => by
   have hb : dnS S' id = some (.loop (AV.rens dn1 env) (rec st pe)) := by
    have := Fv (BY id) (show S' (up1 id) = some (.loop env (rec st pe)) by rw [hS]; exact AD _ _ _)
    rw [Ge] at this
    exact this
   have hg4 := hl4 hb rfl
   cases hbr : R4.blk id _ hb with
   | loop k1 k2 k3 k4 k5 =>
    rw [hg4] at k1
    cases k1
    obtain ⟨ι5, R5, _⟩ := R4.setBlk (b' := .dead 1 0) (o' := .loop { rec st pe with state := .exhausted }) hb hg4 k2 k5 rfl rfl fun S'' ι'' hu => .dead fun g' hg' => by
     rw [hg4] at hg'
     cases hg'
     exact ⟨_, (CL k2).1, rfl⟩
    refine ⟨w2.putObj (w.heap.size + 1) (.loop { rec st pe with state := .exhausted }), ?_, σ', ι5, ?_⟩
    ·have := run_endLoop (P := P) k2 (by rw [hrec]; exact hst)
     rw [hrec] at this ⊢
     exact this
    ·have e5 : (AS.set ⟨(s.set id (.loop (A9 C.n s.env) (rec .ready none))).env, dnS S'⟩ id (.dead 1 0)) = ⟨s.env, AB (dnS U) id (some (.dead 1 0))⟩ := by
      show AS.mk s.env (AB (dnS S') id _) = _
      rw [hS, MU]
     rw [← e5]
     exact R5
  obtain ⟨V, bb, h0, hP⟩ := hP
  rcases hP with ⟨U, rfl, h2, h3⟩ | ⟨U, c, ex, rfl, h2, h3, h4⟩
  ·obtain ⟨w3, f1, f2⟩ := fin (AB U (up1 r0) (some bb)) _ .ready none (by simp) (h0.trans (Am hne.symm))
   rw [OB] at f2
   exact ⟨none, w3, f1, _, hdone U _ h3, f2⟩
  ·obtain ⟨w3, f1, f2⟩ := fin (AB U (up1 r0) (some bb)) _ .done (some c) (by simp) (h0.trans (Am hne.symm))
   rw [OB] at f2
   refine ⟨some c, w3, f1, ?_⟩
   cases h3 with
   | ret => exact wpIn_ret ⟨_, hjump _ U _ h4, f2⟩
   | exit i => exact wpIn_exit ⟨_, hjump _ U _ h4, f2⟩
end

def D8 : IR :=
 (.seq (.ops [.i 2 (.box 3 (.t 0)), .i 3 (.box 3 (.t 1)), .i 4 (.mov (.c (.one (.st (.lit .nilFunc)))))]) (.seq (.ops [.i 5 (.makeFunc 57 [.t 3, .t 2]), .m 4 5]) .ret))
theorem Hn : OkF Try.prog 35 6 [] D8 [.t 4] := .of Try.func35 rfl rfl (by kernel_rfl) rfl
def Dd : IR :=
 (.seq (.ops [.l 6 1, .i 7 (.makeSlice 3 1 8 [.int .i64 0] (.t 6) (.t 6)), .m 4 7]) (.block 0 (.loop (.seq (.seq (.ops [.l 8 2, .i 9 (.bin .gtr (.t 8) (.n 0)), .m 10 9, .mk (some 11) (some (10, false)) (.load false 1 (.t 1)) .no, .mk (some 12) (some (10, false)) (.bin .eql (.t 11) (.n 0)) .no, .i 13 (.pick (.t 10) (.c (.one (.st (.bool true)))) (.t 12))]) (.cond (.t 13) .skip (.exit 0))) (.block 1 (.seq (.seq (.ops [.m 14 0, .m 15 4, .i 16 (.callY (.t 14) [.t 15]), .i 17 (.un .not (.t 16))]) (.cond (.t 17) .ret .skip)) (.seq (.ops [.l 18 1, .i 19 (.bin .sub (.t 18) (.n 1)), .m 5 19]) (.seq (.block 2 (.loop (.seq (.seq (.ops [.m 20 5, .i 21 (.bin .geq (.t 20) (.n 0))]) (.cond (.t 21) .skip (.exit 2))) (.seq (.block 3 (.seq (.seq (.ops [.m 24 4, .m 25 5, .i 26 (.indexAddr 1 (.t 24) (.t 25)), .l 27 26, .i 28 (.bin .add (.t 27) (.n 1)), .i 29 (.indexAddr 1 (.t 24) (.t 25)), .s 1 29 28]) (.seq (.ops [.m 30 4, .m 31 5, .i 32 (.indexAddr 1 (.t 30) (.t 31)), .l 33 32, .l 34 2, .i 35 (.bin .lss (.t 33) (.t 34))]) (.cond (.t 35) (.exit 2) .skip))) (.ops [.m 36 4, .m 37 5, .i 38 (.indexAddr 1 (.t 36) (.t 37)), .mk none none (.store 1 (.t 38) (.n 0)) .no]))) (.ops [.m 22 5, .i 23 (.bin .sub (.t 22) (.n 1)), .m 5 23]))))) (.seq (.ops [.m 39 5, .i 40 (.bin .lss (.t 39) (.n 0))]) (.cond (.t 40) .ret .skip))))))))))
theorem GF : OkF Try.prog 57 41 [70000016] Dd [] := .of Try.func57 rfl rfl (by kernel_rfl) rfl

theorem Aa.freeze {C : Ctx} {s : AS} (id : Nat) (ts : List Nat) {ty : TypeId} {xs : List SV} (hS : s.S id = some (.box ty (xs.map .st))) (hl : 0 < xs.length) (ht : ∀ t ∈ ts, s.env t = .one (.ptr id 1 0 0)) :
  Aa C s ⟨fun t => if t ∈ ts then .one (.eptr xs) else s.env t, AB s.S id (some (.dead 1 0))⟩ := fun a w ⟨σ, ι, R⟩ => by
 have hb := R.blk _ _ hS
 cases hb with
 | @box _ _ g vs h1 h2 h3 h4 h5 =>
  have hkeep := Eo (σ := σ) (w' := w) (g := g) (k := xs.length) (fun p x e hx => by rw [h5 _ e] at hx; cases hx)
  obtain ⟨hu, R'⟩ := R.turn (w' := w) hS (.dead 1 0) (ι id) (σ' := DA σ w g xs.length) hkeep (fun p hp _ => EV (fun e => hp (by rw [e]; exact h1))) (DR R.fit) (Nat.le_refl _) (fun _ => ⟨rfl, rfl⟩) ⟨rfl, rfl, rfl⟩ (Nat.le_refl _) (fun _ _ _ => rfl) (fun g h => .inl h)
   (fun hu => .dead fun g' hg' => by rw [h1] at hg'; cases hg'; exact ⟨_, h3, rfl⟩)
  refine ⟨_, _, R'.size, fun i hi => ?_, R'.nod, R'.fit, R'.blk, R'.inj, R'.base, R'.ext, R'.old, R'.os, R'.grown, R'.same, R'.upd⟩
  show AO _ _ _ _ (if i ∈ ts then .one (.eptr xs) else s.env i)
  split
  ·rename_i hm
   have re := R.env i hi
   rw [ht i hm] at re
   obtain ⟨b, q1, q2, q3⟩ := Db (AP re)
   rw [hS] at q1
   cases q1
   obtain ⟨g', e1, e2⟩ := q3 rfl
   rw [h1] at e1
   cases e1
   rw [e2]
   have cell : ∀ j x, xs[j]? = some x → ∃ v, vs[j]? = some v ∧ Ag σ v x := fun j x hx => by
    obtain ⟨v, v1, v2⟩ := h4.get (j := j) (b := .st x) (by rw [List.getElem?_map, hx]; rfl)
    exact ⟨v, by simpa using v1, Bc v2⟩
   refine .one (.eptr (fun j => (vs[j]?).getD undef) (fun j x hx => ?_) (fun j x hx => ?_) (fun _ _ => ?_))
   ·obtain ⟨v, v1, v2⟩ := cell j x hx
    have hj := (List.getElem?_eq_some_iff.1 hx).1
    rw [show (0 * (AJ.box ty (xs.map AC.st)).wid + 0 + j) = j by omega, JJ hj, cell_of_row w g _ _ _ _ h3, v1]
    rfl
   ·obtain ⟨v, v1, v2⟩ := cell j x hx
    rw [v1]
    exact v2.mono hkeep
   ·rw [F4 hl, El h3]
  ·exact R'.env i hi

def BK (n m k : Nat) : List Nat := match m with
 | 0 => []
 | 1 => [k]
 | _ => [k / n, k % n]
def Cs (n m : Nat) : Nat := match m with
 | 0 => 1
 | 1 => n
 | _ => n * n
def F2 (n m : Nat) : List (List Nat) := (List.range (Cs n m)).map (BK n m)
theorem F1 (n m k : Nat) (hm : m ≤ 2) : (BK n m k).length = m := by
 match m, hm with
 | 0, _ => rfl
 | 1, _ => rfl
 | 2, _ => rfl
theorem OR {n m k : Nat} (hm : m ≤ 2) (hk : k < Cs n m) : ∀ x ∈ BK n m k, x < n := by
 match m, hm with
 | 0, _ => simp [BK]
 | 1, _ => simpa [BK, Cs] using hk
 | 2, _ =>
  have hk : k < n * n := hk
  have hn : 0 < n := by
   rcases Nat.eq_zero_or_pos n with h | h
   ·subst h; omega
   ·exact h
  intro x hx
  simp only [BK, List.mem_cons, List.not_mem_nil, or_false] at hx
  rcases hx with rfl | rfl
  ·exact Nat.div_lt_of_lt_mul hk
  ·exact Nat.mod_lt _ hn
theorem Fs {n m : Nat} (hm : m ≤ 2) {l : List Nat} : l ∈ F2 n m ↔ l.length = m ∧ ∀ x ∈ l, x < n := by
 unfold F2
 simp only [List.mem_map, List.mem_range]
 constructor
 ·rintro ⟨k, hk, rfl⟩
  exact ⟨F1 n m k hm, OR hm hk⟩
 ·rintro ⟨h1, h2⟩
  match m, hm, l, h1 with
  | 0, _, [], _ => exact ⟨0, by simp [Cs], rfl⟩
  | 1, _, [a], _ => exact ⟨a, by simpa [Cs] using h2 a (by simp), rfl⟩
  | 2, _, [a, b], _ =>
   have ha := h2 a (by simp)
   have hb := h2 b (by simp)
   refine ⟨a * n + b, ?_, ?_⟩
   ·show a * n + b < n * n
    calc a * n + b < a * n + n := by omega
     _ = (a + 1) * n := by rw [Nat.add_mul, Nat.one_mul]
     _ ≤ n * n := Nat.mul_le_mul_right _ ha
   ·show [(a * n + b) / n, (a * n + b) % n] = [a, b]
    have hn : 0 < n := by omega
    rw [Nat.mul_comm a n, Nat.mul_add_div hn, Nat.div_eq_of_lt hb, Nat.mul_add_mod, Nat.mod_eq_of_lt hb]
    simp
theorem NU {N k : Nat} (h : k ≤ N) : List.range k <+: List.range N := by
 obtain ⟨d, rfl⟩ := Nat.exists_eq_add_of_le h
 rw [List.range_add]
 exact List.prefix_append _ _
theorem Pa {n m k : Nat} (h : k ≤ Cs n m) : (List.range k).map (BK n m) <+: F2 n m := by
 obtain ⟨r, hr⟩ := NU h
 exact ⟨r.map (BK n m), by rw [F2, ← hr, List.map_append]⟩
def Ds (n m k : Nat) (i : Int) : List Nat → Prop := fun row => match m with
 | 0 => row = [] ∧ i = -1
 | 1 => (row = [k] ∧ i = 0) ∨ (row = [0] ∧ i = -1 ∧ k + 1 = n)
 | _ => (row = [k / n, k % n] ∧ i = 1) ∨ (row = [k / n, 0] ∧ i = 0 ∧ k % n + 1 = n) ∨ (row = [0, 0] ∧ i = -1 ∧ k % n + 1 = n ∧ k / n + 1 = n)
theorem Jo {n m k : Nat} (hm : m ≤ 2) : Ds n m k ((m : Int) - 1) (BK n m k) := by
 match m, hm with
 | 0, _ => exact ⟨rfl, rfl⟩
 | 1, _ => exact .inl ⟨rfl, rfl⟩
 | 2, _ => exact .inl ⟨rfl, rfl⟩
theorem Ln {n m k : Nat} {i : Int} {row : List Nat} (hm : m ≤ 2) (h : Ds n m k i row) : row.length = m := by
 match m, hm with
 | 0, _ => obtain ⟨rfl, _⟩ := h; rfl
 | 1, _ => rcases h with ⟨rfl, _⟩ | ⟨rfl, _⟩ <;> rfl
 | 2, _ => rcases h with ⟨rfl, _⟩ | ⟨rfl, _⟩ | ⟨rfl, _⟩ <;> rfl
theorem Mw {n m k : Nat} {i : Int} {row : List Nat} (hm : m ≤ 2) (h : Ds n m k i row) : -1 ≤ i ∧ i < m := by
 match m, hm with
 | 0, _ => obtain ⟨_, rfl⟩ := h; omega
 | 1, _ => rcases h with ⟨_, rfl⟩ | ⟨_, rfl, _⟩ <;> omega
 | 2, _ => rcases h with ⟨_, rfl⟩ | ⟨_, rfl, _⟩ | ⟨_, rfl, _⟩ <;> omega
theorem L7 {n m k : Nat} {i : Int} {row : List Nat} (hm : m ≤ 2) (hk : k < Cs n m) (h : Ds n m k i row) : ∀ x ∈ row, x < n := by
 match m, hm with
 | 0, _ => obtain ⟨rfl, _⟩ := h; simp
 | 1, _ =>
  have hk : k < n := hk
  rcases h with ⟨rfl, _⟩ | ⟨rfl, _⟩
  ·simpa using hk
  ·simp; omega
 | 2, _ =>
  have hk : k < n * n := hk
  have hn : 0 < n := by
   rcases Nat.eq_zero_or_pos n with h | h
   ·subst h; omega
   ·exact h
  have hml := Nat.mod_lt k hn
  have hq : k / n < n := Nat.div_lt_of_lt_mul hk
  rcases h with ⟨rfl, _⟩ | ⟨rfl, _⟩ | ⟨rfl, _⟩
  ·simp [hml, hq]
  ·simp [hn, hq]
  ·simp [hn]
theorem Lm {n m k i : Nat} {row : List Nat} (hm : m ≤ 2) (hk : k < Cs n m) (h : Ds n m k i row) {x : Nat} (hx : row[i]? = some x) (hlt : x + 1 < n) : k + 1 < Cs n m ∧ row.set i (x + 1) = BK n m (k + 1) := by
 match m, hm with
 | 0, _ => obtain ⟨rfl, h2⟩ := h; omega
 | 1, _ =>
  rcases h with ⟨rfl, h2⟩ | ⟨rfl, h2, _⟩
  ·have : i = 0 := by omega
   subst this
   simp at hx
   subst hx
   exact ⟨hlt, rfl⟩
  ·omega
 | 2, _ =>
  have hk : k < n * n := hk
  have hn : 0 < n := by omega
  have hdm := Nat.div_add_mod k n
  have hml := Nat.mod_lt k hn
  rcases h with ⟨rfl, h2⟩ | ⟨rfl, h2, h3⟩ | ⟨rfl, h2, h3⟩
  ·have : i = 1 := by omega
   subst this
   simp at hx
   subst hx
   have e : k + 1 = n * (k / n) + (k % n + 1) := by omega
   have hq : k / n < n := Nat.div_lt_of_lt_mul hk
   refine ⟨?_, ?_⟩
   ·show k + 1 < n * n
    calc k + 1 = n * (k / n) + (k % n + 1) := e
     _ < n * (k / n) + n := by omega
     _ = n * (k / n + 1) := by rw [Nat.mul_add, Nat.mul_one]
     _ ≤ n * n := Nat.mul_le_mul_left _ hq
   ·show [k / n, k % n + 1] = [(k + 1) / n, (k + 1) % n]
    rw [e, Nat.mul_add_div hn, Nat.div_eq_of_lt hlt, Nat.mul_add_mod, Nat.mod_eq_of_lt hlt]
    rfl
  ·have : i = 0 := by omega
   subst this
   simp at hx
   subst hx
   have e : k + 1 = n * (k / n + 1) := by rw [Nat.mul_add, Nat.mul_one]; omega
   refine ⟨?_, ?_⟩
   ·show k + 1 < n * n
    rw [e]
    exact Nat.mul_lt_mul_of_pos_left hlt hn
   ·show [k / n + 1, 0] = [(k + 1) / n, (k + 1) % n]
    rw [e, Nat.mul_div_cancel_left _ hn, Nat.mul_mod_right]
  ·omega
theorem Jw {n m k i : Nat} {row : List Nat} (hm : m ≤ 2) (hk : k < Cs n m) (h : Ds n m k i row) {x : Nat} (hx : row[i]? = some x) (hge : ¬ x + 1 < n) : Ds n m k ((i : Int) - 1) ((row.set i (x + 1)).set i 0) := by
 match m, hm with
 | 0, _ => obtain ⟨rfl, h2⟩ := h; omega
 | 1, _ =>
  rcases h with ⟨rfl, h2⟩ | ⟨rfl, h2, _⟩
  ·have : i = 0 := by omega
   subst this
   simp at hx
   subst hx
   have hk : k < n := hk
   exact .inr ⟨rfl, rfl, by omega⟩
  ·omega
 | 2, _ =>
  have hk : k < n * n := hk
  have hn : 0 < n := by
   rcases Nat.eq_zero_or_pos n with h | h
   ·subst h; omega
   ·exact h
  have hml := Nat.mod_lt k hn
  have hq : k / n < n := Nat.div_lt_of_lt_mul hk
  rcases h with ⟨rfl, h2⟩ | ⟨rfl, h2, h3⟩ | ⟨rfl, h2, h3⟩
  ·have : i = 1 := by omega
   subst this
   simp at hx
   subst hx
   exact .inr (.inl ⟨rfl, rfl, by omega⟩)
  ·have : i = 0 := by omega
   subst this
   simp at hx
   subst hx
   exact .inr (.inr ⟨rfl, rfl, h3, by omega⟩)
  ·omega
theorem L9 {n m k : Nat} {row : List Nat} (hm : m ≤ 2) (hk : k < Cs n m) (h : Ds n m k (-1) row) : k + 1 = Cs n m := by
 match m, hm with
 | 0, _ => have : k < 1 := hk; show k + 1 = 1; omega
 | 1, _ =>
  rcases h with ⟨_, h2⟩ | ⟨_, _, h2⟩
  ·omega
  ·exact h2
 | 2, _ =>
  rcases h with ⟨_, h2⟩ | ⟨_, h2, _⟩ | ⟨_, _, h2, h3⟩
  ·omega
  ·omega
  ·show k + 1 = n * n
   have hdm := Nat.div_add_mod k n
   have e : n * n = n * (k / n) + n := by
    calc n * n = n * (k / n + 1) := by rw [h3]
     _ = n * (k / n) + n := by rw [Nat.mul_add, Nat.mul_one]
   omega

end Go.Proofs.Ytkegjgodjigjfaa
