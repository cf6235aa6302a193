/-
  Part 7 of the texts. Conditions: none.
-/
import Derived.Test.YtbknconogoegaaaTSA6
import Derived.Sort.Walk0
import Derived.Lib.FrozenHead2
import Derived.Lib.OthersKept
import Derived.Shelf.Strings.BuilderK
namespace Go.Proofs.Ytbknconogoegaaa
open Go Go.RowKit
set_option linter.unusedVariables false
set_option linter.unusedSimpArgs false
set_option maxHeartbeats 1000000
def Aq (a : Au) : AI := .box 25 [.st (.int .i64 a.states), .st (.list (a.moves.map BK)), .st (.list (a.last.map CO))]
theorem Jz (a : Au) (x : Int) (b : Nat) (hb : 1000 ≤ b) (S : AA) (sb : S b = some (Aq a)) : Aj Try.prog 50 [AR x, .one (.ptr b 1 0 0)] S (BX (!inS a.states x)) S := by
 refine Ef.acS fun hS C hC => ?_
 unfold Cj
 unfold Aq at sb
 by_cases h1 : x < 0
 ·have e : inS a.states x = false := Kp (Or.inl h1)
  repeat' with_reducible first | refine W ?_ | refine Z0 ?_ | ((first | refine Wo fun K hK => ?_ | refine Wp ?_ | refine Wq ?_ | refine Wr ?_); (try simp only [go_sem, fN, seval, eT, iR, sb, h1, dT, dF, nL]); (repeat refine Ai ?_); (try (refine hK _ ?_; clear hK K)); try refine iC ?_)
  refine CT (BX (!inS a.states x)) hS trivial ?_ ?_ fun j hj => ?_
  ·rw [e]
   rfl
  ·rfl
  ·rfl
 by_cases h2 : a.states ≤ x
 ·have e : inS a.states x = false := Kp (Or.inr h2)
  repeat' with_reducible first | refine W ?_ | refine Z0 ?_ | ((first | refine Wo fun K hK => ?_ | refine Wp ?_ | refine Wq ?_ | refine Wr ?_); (try simp only [go_sem, fN, seval, eT, iR, sb, h1, h2, dT, dF, nL]); (repeat refine Ai ?_); (try (refine hK _ ?_; clear hK K)); try refine iC ?_)
  refine CT (BX (!inS a.states x)) hS trivial ?_ ?_ fun j hj => ?_
  ·rw [e]
   rfl
  ·rfl
  ·rfl
 ·have e : inS a.states x = true := L7 h1 h2
  repeat' with_reducible first | refine W ?_ | refine Z0 ?_ | ((first | refine Wo fun K hK => ?_ | refine Wp ?_ | refine Wq ?_ | refine Wr ?_); (try simp only [go_sem, fN, seval, eT, iR, sb, h1, h2, dT, dF, nL]); (repeat refine Ai ?_); (try (refine hK _ ?_; clear hK K)); try refine iC ?_)
  refine CT (BX (!inS a.states x)) hS trivial ?_ ?_ fun j hj => ?_
  ·rw [e]
   rfl
  ·rfl
  ·rfl
theorem OJ {p : Int → Bool} (xs : List Int) : 0 ≤ (match xs.findIdx? p with | some i => (i : Int) | none => -1) ↔ xs.any p = true := by
 cases h : xs.findIdx? p with
 | some i =>
  rw [List.findIdx?_eq_some_iff_getElem] at h
  obtain ⟨h1, h2, _⟩ := h
  simp only [List.any_eq_true]
  exact ⟨fun _ => ⟨_, List.getElem_mem h1, h2⟩, fun _ => by omega⟩
 | none =>
  rw [List.findIdx?_eq_none_iff] at h
  constructor
  ·intro h'
   exact absurd h' (by decide)
  ·intro h'
   rw [List.any_eq_true] at h'
   obtain ⟨x, hx, hp⟩ := h'
   rw [h x hx] at hp
   cases hp
theorem J7 {p : Int → Bool} {xs : List Int} {k : Nat} {x : Int} (hx : xs[k]? = some x) (h : (xs.take k).any p = false) (hp : p x = true) : xs.findIdx? p = some k := by
 obtain ⟨hk, he⟩ := List.getElem?_eq_some_iff.1 hx
 rw [List.findIdx?_eq_some_iff_getElem]
 refine ⟨hk, by rw [he]; exact hp, fun j hj => ?_⟩
 rw [List.any_eq_false] at h
 have := h (xs[j]'(by omega)) (by
  rw [List.mem_take_iff_getElem]
  exact ⟨j, by omega, rfl⟩)
 simpa using this
theorem IT (a : Au) (xs : List Int) (hl : xs.length ≤ 9223372036854775807) (b : Nat) (hb : 1000 ≤ b) (S : AA) (sb : S b = some (Aq a)) :
  Aj Try.prog 55 [Cw xs, .one (.fn 50 [.ptr b 1 0 0])] S (AR (match xs.findIdx? (fun x => !inS a.states x) with | some i => (i : Int) | none => -1)) S := by
 refine CP.acS fun hS C hC => ?_
 unfold BS
 repeat' with_reducible first | refine W ?_ | refine Z0 ?_ | ((first | refine Wo fun K hK => ?_ | refine Wp ?_ | refine Wq ?_ | refine Wr ?_); (try simp only [go_sem, fN, seval, eT, iR, dT, dF, nL]); (repeat refine Ai ?_); (try (refine hK _ ?_; clear hK K)); try refine iC ?_)
 refine IWP.loop (fun n s => ∃ k, k ≤ xs.length ∧ n = xs.length - k ∧ (xs.take k).any (fun x => !inS a.states x) = false ∧ s.env 0 = Cw xs ∧ s.env 1 = .one (.fn 50 [.ptr b 1 0 0]) ∧ s.env 7 = AR xs.length ∧ s.env 8 = AR k ∧ s.S = S) xs.length ⟨0, Nat.zero_le _, rfl, rfl, rfl, rfl, rfl, rfl, rfl⟩ ?_
 rintro n ⟨env, S'⟩ ⟨k, hk, rfl, hp, e0, e1, e7, e8, eS⟩
 simp only at e0 e1 e7 e8 eS
 subst eS
 by_cases hlt : (k : Int) < xs.length
 ·obtain ⟨x, hx⟩ := BB (show k < xs.length by omega)
  have hst := Lg (p := fun x => !inS a.states x) hx hp
  have hc := Jz a x (up1 b) (BT b) (upS S') (by rw [Ca, sb]; rfl)
  repeat' with_reducible first | refine W ?_ | refine Z0 ?_ | ((first | refine Wo fun K hK => ?_ | refine Wp ?_ | refine Wq ?_ | refine Wr ?_); (try simp only [go_sem, fN, seval, eT, iR, e0, e1, e7, e8, hlt, hx, dT, dF, nL]); (repeat refine Ai ?_); (try (refine hK _ ?_; clear hK K)); try refine iC ?_)
  first | refine ⟨by kernel_rfl, _, _, hc, ?_⟩ | refine ⟨_, _, hc, ?_⟩
  by_cases hr : (!inS a.states x) = true
  ·have hi := J7 (p := fun x => !inS a.states x) hx hp hr
   repeat' with_reducible first | refine W ?_ | refine Z0 ?_ | ((first | refine Wo fun K hK => ?_ | refine Wp ?_ | refine Wq ?_ | refine Wr ?_); (try simp only [go_sem, fN, seval, eT, iR, e0, e1, e7, e8, hr, dT, dF, nL]); (repeat refine Ai ?_); (try (refine hK _ ?_; clear hK K)); try refine iC ?_)
   refine CT (AR k) hS trivial ?_ ?_ fun j hj => ?_
   ·simp [AH, AM, AY, AE]
   ·rw [hi]
    rfl
   ·rfl
  ·have hr' : (!inS a.states x) = false := by simpa using hr
   repeat' with_reducible first | refine W ?_ | refine Z0 ?_ | ((first | refine Wo fun K hK => ?_ | refine Wp ?_ | refine Wq ?_ | refine Wr ?_); (try simp only [go_sem, fN, seval, eT, iR, e0, e1, e7, e8, hr', dT, dF, nL]); (repeat refine Ai ?_); (try (refine hK _ ?_; clear hK K)); try refine iC ?_)
   refine AK ⟨xs.length - (k + 1), by omega, k + 1, by omega, rfl, ?_⟩
   simp only [go_sem, fN, seval, eT, iR, e0, e1, e7, e8]
   exact ⟨by rw [hst]; exact hr', by congr 3⟩
 ·rw [List.take_of_length_le (by omega)] at hp
  have hi : xs.findIdx? (fun x => !inS a.states x) = none := by
   rw [List.findIdx?_eq_none_iff]
   intro x hx
   rw [List.any_eq_false] at hp
   simpa using hp x hx
  repeat' with_reducible first | refine W ?_ | refine Z0 ?_ | ((first | refine Wo fun K hK => ?_ | refine Wp ?_ | refine Wq ?_ | refine Wr ?_); (try simp only [go_sem, fN, seval, eT, iR, e0, e1, e7, e8, hlt, dT, dF, nL]); (repeat refine Ai ?_); (try (refine hK _ ?_; clear hK K)); try refine iC ?_)
  refine CT (AR (-1)) hS trivial ?_ ?_ fun j hj => ?_
  ·simp [AH, AM, AY, AE]
  ·rw [hi]
   rfl
  ·rfl
theorem Fl (a : Au) (xs : List Int) (hl : xs.length ≤ 9223372036854775807) (b : Nat) (hb : 1000 ≤ b) (S : AA) (sb : S b = some (Aq a)) :
  Aj Try.prog 49 [Cw xs, .one (.fn 50 [.ptr b 1 0 0])] S (BX (!xs.all (inS a.states))) S := by
 have hi := OJ (p := fun x => !inS a.states x) xs
 rw [List.not_all_eq_any_not]
 generalize (xs.any fun x => !inS a.states x) = bb at hi ⊢
 refine B6.acS fun hS C hC => ?_
 unfold BG
 repeat' with_reducible first | refine W ?_ | refine Z0 ?_ | ((first | refine Wo fun K hK => ?_ | refine Wp ?_ | refine Wq ?_ | refine Wr ?_); (try simp only [go_sem, fN, seval, eT, iR, dT, dF, nL]); (repeat refine Ai ?_); (try (refine hK _ ?_; clear hK K)); try refine iC ?_)
 refine ⟨_, _, IT a xs hl (up1 b) (BT b) (upS S) (by rw [Ca, sb]; rfl), ?_⟩
 generalize (match xs.findIdx? (fun x => !inS a.states x) with | some i => (i : Int) | none => -1) = q at hi
 repeat' with_reducible first | refine W ?_ | refine Z0 ?_ | ((first | refine Wo fun K hK => ?_ | refine Wp ?_ | refine Wq ?_ | refine Wr ?_); (try simp only [go_sem, fN, seval, eT, iR, hi, dT, dF, nL]); (repeat refine Ai ?_); (try (refine hK _ ?_; clear hK K)); try refine iC ?_)
 refine CT (BX bb) hS trivial ?_ ?_ fun j hj => ?_
 ·simp [AH, AM, AY, AE]
 ·rfl
 ·rfl
theorem Ks {S : Int} {m : Mv} (h1 : As m.name = true) (h2 : ¬ A3 m.name = true) (h3 : ¬ 4 < m.frm.length) {s : Int} (hs : s ∈ m.frm ++ [m.to_]) (h : s < 0 ∨ S ≤ s) : m.err S = 10 := by
 rcases List.mem_append.1 hs with hs | hs
 ·exact Nn h1 h2 h3 hs h
 ·rw [List.mem_singleton] at hs
  subst hs
  exact Oi h1 h2 h3 h
theorem Nh {S : Int} {m : Mv} (h1 : As m.name = true) (h2 : ¬ A3 m.name = true) (h3 : ¬ 4 < m.frm.length) (h : (m.frm ++ [m.to_]).all (inS S) = true) : m.err S = 0 := by
 rw [List.all_append, Bool.and_eq_true] at h
 exact MR h1 h2 h3 h.1 (by simpa using h.2)
theorem K6 (a : Au) (S M : Int) : Ac Try.prog 35 [aAu a, AR S, AR M] (AR (a.may S M)) := by
 by_cases h1 : a.states < 0
 ·have e : a.may S M = 3 := if_pos (Or.inl h1)
  rw [e]
  refine Bc.ac fun C hC => ?_
  unfold BL
  repeat' with_reducible first | refine W ?_ | refine Z0 ?_ | ((first | refine Wo fun K hK => ?_ | refine Wp ?_ | refine Wq ?_ | refine Wr ?_); (try simp only [go_sem, fN, seval, eT, iR, h1, dT, dF, nL]); (repeat refine Ai ?_); (try (refine hK _ ?_; clear hK K)); try refine iC ?_)
  simp only [go_sem, fN, seval, Af, AS.result, AH, AM, AY]
 by_cases h2 : S < a.states
 ·have e : a.may S M = 3 := if_pos (Or.inr (Or.inl h2))
  rw [e]
  refine Bc.ac fun C hC => ?_
  unfold BL
  repeat' with_reducible first | refine W ?_ | refine Z0 ?_ | ((first | refine Wo fun K hK => ?_ | refine Wp ?_ | refine Wq ?_ | refine Wr ?_); (try simp only [go_sem, fN, seval, eT, iR, h1, h2, dT, dF, nL]); (repeat refine Ai ?_); (try (refine hK _ ?_; clear hK K)); try refine iC ?_)
  simp only [go_sem, fN, seval, Af, AS.result, AH, AM, AY]
 by_cases h3 : M < a.moves.length
 ·have e : a.may S M = 3 := if_pos (Or.inr (Or.inr h3))
  rw [e]
  refine Bc.ac fun C hC => ?_
  unfold BL
  repeat' with_reducible first | refine W ?_ | refine Z0 ?_ | ((first | refine Wo fun K hK => ?_ | refine Wp ?_ | refine Wq ?_ | refine Wr ?_); (try simp only [go_sem, fN, seval, eT, iR, h1, h2, h3, dT, dF, nL]); (repeat refine Ai ?_); (try (refine hK _ ?_; clear hK K)); try refine iC ?_)
  simp only [go_sem, fN, seval, Af, AS.result, AH, AM, AY]
 have h0 : ¬ (a.states < 0 ∨ S < a.states ∨ M < a.moves.length) := by omega
 refine Bc.ac fun C hC => ?_
 unfold BL
 refine IWP.learn 0 (by omega) fun hkn => ?_
 obtain ⟨kM, kL, kF⟩ := NO hkn
 repeat' with_reducible first | refine W ?_ | refine Z0 ?_ | ((first | refine Wo fun K hK => ?_ | refine Wp ?_ | refine Wq ?_ | refine Wr ?_); (try simp only [go_sem, fN, seval, eT, iR, h1, h2, h3, dT, dF, nL]); (repeat refine Ai ?_); (try (refine hK _ ?_; clear hK K)); try refine iC ?_)
 refine IWP.loopD [8, 49] (fun n s => ∃ k, k ≤ a.moves.length ∧ n = a.moves.length - k ∧ s.env 3 = .one (.ptr 3 1 0 0) ∧ s.S 3 = some (Aq a) ∧ s.env 28 = .one (.st (.list (a.moves.map BK))) ∧ s.env 29 = AR a.moves.length ∧ s.env 30 = AR k ∧ s.S 8 = none ∧ s.S 49 = none ∧ A7 a.states (a.moves.take k) = 0) a.moves.length ⟨0, Nat.zero_le _, rfl, rfl, rfl, rfl, rfl, rfl, rfl, rfl, rfl⟩ ?_
 rintro n ⟨env, St⟩ ⟨k, hk, rfl, e3, s3, e28, e29, e30, s8, s49, hno⟩
 simp only at e3 s3 e28 e29 e30 s8 s49
 unfold Aq at s3
 by_cases hlt : (k : Int) < a.moves.length
 ·obtain ⟨m, hm⟩ := BB (show k < a.moves.length by omega)
  have hmm := AW hm
  have hst := Dj hm hno
  by_cases g1 : As m.name = true
  case neg =>
   have e := Di h0 hm hno (M8 g1) (by decide)
   repeat' (first | (with_reducible first | refine W ?_ | refine Z0 ?_ | ((first | refine Wo fun K hK => ?_ | refine Wp ?_ | refine Wq ?_ | refine Wr ?_); (try simp only [go_sem, fN, seval, eT, iR, e3, s3, e28, e29, e30, s8, s49, hlt, hm, BK, g1, dT, dF, nL]); (repeat refine Ai ?_); (try (refine hK _ ?_; clear hK K)); try refine iC ?_)) | refine Cg _ (Gu m.name) ?_)
   simp only [go_sem, fN, seval, Af, AS.result, AH, AM, AY, e]
  case pos =>
  by_cases g2 : A3 m.name = true
  ·have e := Di h0 hm hno (N5 g2) (by decide)
   repeat' (first | (with_reducible first | refine W ?_ | refine Z0 ?_ | ((first | refine Wo fun K hK => ?_ | refine Wp ?_ | refine Wq ?_ | refine Wr ?_); (try simp only [go_sem, fN, seval, eT, iR, e3, s3, e28, e29, e30, s8, s49, hlt, hm, BK, g1, g2, dT, dF, nL]); (repeat refine Ai ?_); (try (refine hK _ ?_; clear hK K)); try refine iC ?_)) | refine Cg _ (Gu m.name) ?_ | refine Cg _ (CY m.name) ?_)
   simp only [go_sem, fN, seval, Af, AS.result, AH, AM, AY, e]
  by_cases g3 : (4 : Int) < m.frm.length
  ·have e := Di h0 hm hno (N6 g1 g2 (by omega)) (by decide)
   repeat' (first | (with_reducible first | refine W ?_ | refine Z0 ?_ | ((first | refine Wo fun K hK => ?_ | refine Wp ?_ | refine Wq ?_ | refine Wr ?_); (try simp only [go_sem, fN, seval, eT, iR, e3, s3, e28, e29, e30, s8, s49, hlt, hm, BK, g1, g2, g3, dT, dF, nL]); (repeat refine Ai ?_); (try (refine hK _ ?_; clear hK K)); try refine iC ?_)) | refine Cg _ (Gu m.name) ?_ | refine Cg _ (CY m.name) ?_)
   simp only [go_sem, fN, seval, Af, AS.result, AH, AM, AY, e]
  have g3' : ¬ 4 < m.frm.length := by omega
  have gb : (m.frm.length + 1) * 8 ≤ 140737488355328 := by omega
  repeat' (first | (with_reducible first | refine W ?_ | refine Z0 ?_ | ((first | refine Wo fun K hK => ?_ | refine Wp ?_ | refine Wq ?_ | refine Wr ?_); (try simp only [go_sem, fN, seval, eT, iR, e3, s3, e28, e29, e30, s8, s49, hlt, hm, BK, g1, g2, g3, dT, dF, nL]); (repeat refine Ai ?_); (try (refine hK _ ?_; clear hK K)); try refine iC ?_)) | refine Cg _ (Gu m.name) ?_ | refine Cg _ (CY m.name) ?_)
  refine ⟨_, _, _, _, Mg m.frm (by omega), by simp [AE, s49], ?_⟩
  repeat' with_reducible first | refine W ?_ | refine Z0 ?_ | ((first | refine Wo fun K hK => ?_ | refine Wp ?_ | refine Wq ?_ | refine Wr ?_); (try simp only [go_sem, fN, seval, eT, iR, e3, s3, e28, e29, e30, s8, s49, gb, dT, dF, nL]); (repeat refine Ai ?_); (try (refine hK _ ?_; clear hK K)); try refine iC ?_)
  have kFm : (m.frm ++ [m.to_]).length = m.frm.length + 1 := by simp
  refine IWP.loop (fun n s => ∃ j, j ≤ m.frm.length + 1 ∧ n = m.frm.length + 1 - j ∧ s.env 3 = .one (.ptr 3 1 0 0) ∧ s.S 3 = some (Aq a) ∧ s.env 28 = .one (.st (.list (a.moves.map BK))) ∧ s.env 29 = AR a.moves.length ∧ s.env 30 = AR k ∧ s.env 53 = .one (.row 49 (m.frm.length + 1)) ∧ s.S 49 = some (.arow 3 1 ((m.frm ++ [m.to_]).map CO)) ∧ s.env 54 = AR ((m.frm.length + 1 : Nat) : Int) ∧ s.env 55 = AR j ∧ ((m.frm ++ [m.to_]).take j).all (inS a.states) = true) (m.frm.length + 1) ⟨0, Nat.zero_le _, rfl, by simpa [AE] using e3, by simpa [AE, Aq] using s3, by simpa [AE] using e28, by simpa [AE] using e29, by simpa [AE] using e30, by simp [AE], by simp [AE], by simp [AE], by simp [AE], rfl⟩ ?_
  rintro n ⟨env2, S2⟩ ⟨j, hj, rfl, f3, t3, f28, f29, f30, f53, t49, f54, f55, hall⟩
  simp only at f3 t3 f28 f29 f30 f53 t49 f54 f55
  unfold Aq at t3
  by_cases hjl : (j : Int) < ((m.frm.length + 1 : Nat) : Int)
  ·obtain ⟨s, hs⟩ := BB (show j < (m.frm ++ [m.to_]).length by omega)
   have hst2 := Li hs hall
   generalize hL : m.frm ++ [m.to_] = L at *
   have kL' : ¬ m.frm.length + 1 < L.length := by omega
   by_cases g4 : s < 0
   ·have e := Di h0 hm hno (Ks g1 g2 g3' (by rw [hL]; exact AW hs) (Or.inl g4)) (by decide)
    repeat' with_reducible first | refine W ?_ | refine Z0 ?_ | ((first | refine Wo fun K hK => ?_ | refine Wp ?_ | refine Wq ?_ | refine Wr ?_); (try simp only [go_sem, fN, seval, eT, iR, f3, t3, f28, f29, f30, f53, t49, f54, f55, hjl, hs, g4, kFm, dT, dF, nL]); (repeat refine Ai ?_); (try (refine hK _ ?_; clear hK K)); try refine iC ?_)
    simp only [go_sem, fN, seval, Af, AS.result, AH, AM, AY, e]
   by_cases g5 : a.states ≤ s
   ·have e := Di h0 hm hno (Ks g1 g2 g3' (by rw [hL]; exact AW hs) (Or.inr g5)) (by decide)
    repeat' with_reducible first | refine W ?_ | refine Z0 ?_ | ((first | refine Wo fun K hK => ?_ | refine Wp ?_ | refine Wq ?_ | refine Wr ?_); (try simp only [go_sem, fN, seval, eT, iR, f3, t3, f28, f29, f30, f53, t49, f54, f55, hjl, hs, g4, g5, kFm, dT, dF, nL]); (repeat refine Ai ?_); (try (refine hK _ ?_; clear hK K)); try refine iC ?_)
    simp only [go_sem, fN, seval, Af, AS.result, AH, AM, AY, e]
   ·repeat' with_reducible first | refine W ?_ | refine Z0 ?_ | ((first | refine Wo fun K hK => ?_ | refine Wp ?_ | refine Wq ?_ | refine Wr ?_); (try simp only [go_sem, fN, seval, eT, iR, f3, t3, f28, f29, f30, f53, t49, f54, f55, hjl, hs, g4, g5, kFm, dT, dF, nL]); (repeat refine Ai ?_); (try (refine hK _ ?_; clear hK K)); try refine iC ?_)
    refine AK ⟨m.frm.length + 1 - (j + 1), by omega, j + 1, by omega, rfl, ?_⟩
    simp only [go_sem, fN, seval, eT, iR, f3, t3, f28, f29, f30, f53, t49, f54, f55]
    exact ⟨rfl, by congr 3, by rw [hst2]; exact L7 g4 g5⟩
  ·rw [List.take_of_length_le (by omega)] at hall
   repeat' with_reducible first | refine W ?_ | refine Z0 ?_ | ((first | refine Wo fun K hK => ?_ | refine Wp ?_ | refine Wq ?_ | refine Wr ?_); (try simp only [go_sem, fN, seval, eT, iR, f3, t3, f28, f29, f30, f53, t49, f54, f55, hjl, dT, dF, nL]); (repeat refine Ai ?_); (try (refine hK _ ?_; clear hK K)); try refine iC ?_)
   refine AK ⟨a.moves.length - (k + 1), by omega, k + 1, by omega, rfl, ?_⟩
   simp only [go_sem, fN, seval, AS.drop, Ao, AC.clears, AC.clear, AC.highs, AC.high, Bool.not_false, Bool.true_and, Bool.and_self, AV.purge, AV.purges, AC.purge, AI.purge, List.contains_cons, List.contains_nil, Nat.reduceBEq, Bool.or_self, Bool.or_false, Bool.false_or, Bool.or_true, eT, iR, f3, t3, f28, f29, f30, f53, t49, f54, f55]
   exact ⟨rfl, by congr 3, by rw [hst]; exact Nh g1 g2 g3' hall⟩
 ·rw [List.take_of_length_le (by omega)] at hno
  have e := My (S := S) (M := M) h0 hno
  repeat' with_reducible first | refine W ?_ | refine Z0 ?_ | ((first | refine Wo fun K hK => ?_ | refine Wp ?_ | refine Wq ?_ | refine Wr ?_); (try simp only [go_sem, fN, seval, eT, iR, e3, s3, e28, e29, e30, hlt, AS.caps, dT, dF, nL]); (repeat refine Ai ?_); (try (refine hK _ ?_; clear hK K)); try refine iC ?_)
  refine ⟨_, _, Fl a a.last (by omega) (up1 3) (BT 3) _ (by rw [Ca, s3]; rfl), ?_⟩
  by_cases hall : a.last.all (inS a.states) = true
  ·rw [hall, if_pos rfl] at e
   repeat' with_reducible first | refine W ?_ | refine Z0 ?_ | ((first | refine Wo fun K hK => ?_ | refine Wp ?_ | refine Wq ?_ | refine Wr ?_); (try simp only [go_sem, fN, seval, eT, iR, e3, s3, e28, e29, e30, hall, dT, dF, nL]); (repeat refine Ai ?_); (try (refine hK _ ?_; clear hK K)); try refine iC ?_)
   simp only [go_sem, fN, seval, Af, AS.result, AH, AM, AY, e]
  ·have hall' : a.last.all (inS a.states) = false := by simpa using hall
   rw [hall', if_neg (by decide)] at e
   repeat' with_reducible first | refine W ?_ | refine Z0 ?_ | ((first | refine Wo fun K hK => ?_ | refine Wp ?_ | refine Wq ?_ | refine Wr ?_); (try simp only [go_sem, fN, seval, eT, iR, e3, s3, e28, e29, e30, hall', dT, dF, nL]); (repeat refine Ai ?_); (try (refine hK _ ?_; clear hK K)); try refine iC ?_)
   simp only [go_sem, fN, seval, Af, AS.result, AH, AM, AY, e]
theorem CW (a : Au) : Ac Try.prog 14 [aAu a] (AR (a.may 8 40)) := by
 refine HC.ac fun C hC => ?_
 unfold ED
 repeat' (first | (with_reducible first | refine W ?_ | refine Z0 ?_ | ((first | refine Wo fun K hK => ?_ | refine Wp ?_ | refine Wq ?_ | refine Wr ?_); (try simp only [go_sem, fN, seval, eT, iR, dT, dF, nL]); (repeat refine Ai ?_); (try (refine hK _ ?_; clear hK K)); try refine iC ?_)) | refine Cg _ (K6 a 8 40) ?_)
 simp only [go_sem, fN, seval, Af, AS.result, AH, AM, AY]

set_option maxHeartbeats 2000000


theorem F7 : ∀ {bs : List (List Bool)} {ss : List Int} {j : Nat} {b : List Bool} {s : Int}, bs[j]? = some b → ss[j]? = some s → Bk (bs.take (j + 1)) (ss.take (j + 1)) = (Bk (bs.take j) (ss.take j) && b.getD s.toNat false)
 | b0 :: bs, s0 :: ss, 0, b, s, hb, hs => by
  simp at hb hs
  subst hb hs
  simp [Bk]
 | b0 :: bs, s0 :: ss, j + 1, b, s, hb, hs => by
  simp only [List.take_succ_cons, Bk]
  rw [F7 (by simpa using hb) (by simpa using hs), Bool.and_assoc]
 | [], _, _, _, _, hb, _ => by simp at hb
 | _ :: _, [], _, _, _, _, hs => by simp at hs
theorem HZ : ∀ {bs : List (List Bool)} {ss : List Int}, ¬ ss.length = bs.length → Bk bs ss = false
 | [], [], h => absurd rfl h
 | [], _ :: _, _ => rfl
 | _ :: _, [], _ => rfl
 | b :: bs, s :: ss, h => by
  rw [Bk, HZ (fun e => h (by simp [e]))]
  simp


set_option maxRecDepth 100000
def D_ : IR :=
 (.seq (.ops [.i 3 (.box 25 (.t 0)), .i 6 (.mov (.c (.one (.st (.int .u64 0)))))]) (.seq (.ops [.i 7 (.mov (.c (.one (.st (.int .u64 0)))))]) (.seq (.seq (.ops [.f 13 1 3, .l 14 13, .i 15 (.len false (.t 14)), .i 16 (.mov (.n 0))]) (.block 0 (.loop (.seq (.ops [.i 17 (.bin .lss (.t 16) (.t 15))]) (.seq (.cond (.t 17) .skip (.exit 0)) (.seq (.block 1 (.seq (.ops [.i 18 (.indexAddr 3 (.t 14) (.t 16)), .L 19 3 18, .i 9 (.alloc 50 [.st (.str (ByteArray.mk (#[]))), .full [], .st (.int .i64 0)]), .s 3 9 19]) (.seq (.seq (.ops [.f 20 0 9, .l 21 20, .m 22 1, .i 23 (.bin .neq (.t 21) (.t 22)), .m 24 23, .mk (some 25) (some (24, false)) (.fieldAddr 1 (.t 9)) .no, .mk (some 26) (some (24, false)) (.load false 1 (.t 25)) .no, .mk (some 27) (some (24, false)) (.len false (.t 26)) .no, .mk (some 28) (some (24, false)) (.mov (.t 2)) .no, .mk (some 29) (some (24, false)) (.len false (.t 28)) .no, .mk (some 30) (some (24, false)) (.bin .neq (.t 27) (.t 29)) .no, .i 31 (.pick (.t 24) (.c (.one (.st (.bool true)))) (.t 30))]) (.cond (.t 31) (.exit 1) .skip)) (.seq (.ops [.i 10 (.mov (.c (.one (.st (.bool true)))))]) (.seq (.seq (.ops [.f 32 1 9, .l 33 32, .i 34 (.len false (.t 33)), .i 35 (.mov (.n 0))]) (.block 2 (.loop (.seq (.ops [.i 36 (.bin .lss (.t 35) (.t 34))]) (.seq (.cond (.t 36) .skip (.exit 2)) (.seq (.block 3 (.seq (.ops [.m 37 35, .i 38 (.indexAddr 1 (.t 33) (.t 35)), .l 39 38, .m 11 37, .m 12 39]) (.ops [.m 40 10, .m 41 40, .mk (some 42) (some (41, true)) (.mov (.t 2)) .no, .mk (some 43) (some (41, true)) (.mov (.t 11)) .no, .mk (some 44) (some (41, true)) (.indexAddr 1 (.t 42) (.t 43)) .no, .mk (some 45) (some (41, true)) (.load false 1 (.t 44)) .no, .mk (some 46) (some (41, true)) (.mov (.t 12)) .no, .mk (some 47) (some (41, true)) (.bits .shr (.t 45) (.t 46)) .no, .mk (some 48) (some (41, true)) (.bits .and (.t 47) (.c (.one (.st (.int .u64 1))))) .no, .mk (some 49) (some (41, true)) (.bin .eql (.t 48) (.c (.one (.st (.int .u64 1))))) .no, .i 50 (.pick (.t 41) (.t 49) (.c (.one (.st (.bool false))))), .m 10 50]))) (.ops [.i 51 (.bin .add (.t 35) (.n 1)), .m 35 51]))))))) (.seq (.ops [.m 52 10]) (.cond (.t 52) (.ops [.m 53 7, .f 54 2 9, .l 55 54, .i 56 (.bits .shl (.c (.one (.st (.int .u64 1)))) (.t 55)), .i 57 (.bits .or (.t 53) (.t 56)), .m 7 57]) .skip))))))) (.ops [.i 58 (.bin .add (.t 16) (.n 1)), .m 16 58]))))))) (.seq (.ops [.m 59 7, .m 6 59]) .ret))))
theorem G4 : OkF Try.prog 44 60 [90000047] D_ [.t 6] := .of Try.func44 rfl rfl (by kernel_rfl) rfl
def FR : IR :=
 (.seq (.ops [.i 2 (.box 25 (.t 0)), .i 3 (.box 28 (.t 1)), .i 4 (.mov (.c (.one (.st (.int .u64 0)))))]) (.seq (.ops [.i 5 (.mov (.c (.one (.full []))))]) (.seq (.seq (.ops [.f 8 1 3, .l 9 8, .i 10 (.len false (.t 9)), .i 11 (.mov (.n 0))]) (.block 0 (.loop (.seq (.ops [.i 12 (.bin .lss (.t 11) (.t 10))]) (.seq (.cond (.t 12) .skip (.exit 0)) (.seq (.block 1 (.seq (.ops [.i 13 (.indexAddr 2 (.t 9) (.t 11)), .L 14 2 13, .i 7 (.alloc 28 [.st (.str (ByteArray.mk (#[]))), .full []]), .s 2 7 14]) (.ops [.m 15 5, .L 16 3 2, .L 17 2 7, .i 18 (.call 30 [.t 16, .t 17]), .i 19 (.buildFlat [.t 18]), .i 20 (.append false 61 1 8 (.t 15) (.t 19)), .m 5 20]))) (.ops [.i 21 (.bin .add (.t 11) (.n 1)), .m 11 21]))))))) (.seq (.ops [.L 22 3 2, .f 23 0 3, .l 24 23, .m 25 5, .i 26 (.call 44 [.t 22, .t 24, .t 25]), .m 4 26]) .ret))))
theorem JH : OkF Try.prog 30 27 [] FR [.t 4] := .of Try.func30 rfl rfl (by kernel_rfl) rfl
def EE : IR :=
 (.seq (.ops [.i 1 (.box 25 (.t 0)), .i 2 (.mov (.c (.one (.st (.int .u64 0)))))]) (.seq (.ops [.i 3 (.mov (.c (.one (.st (.int .u64 0)))))]) (.seq (.seq (.ops [.f 6 2 1, .l 7 6, .i 8 (.len false (.t 7)), .i 9 (.mov (.n 0))]) (.block 0 (.loop (.seq (.ops [.i 10 (.bin .lss (.t 9) (.t 8))]) (.seq (.cond (.t 10) .skip (.exit 0)) (.seq (.block 1 (.seq (.ops [.i 11 (.indexAddr 1 (.t 7) (.t 9)), .l 12 11, .m 5 12]) (.ops [.m 13 3, .m 14 5, .i 15 (.bits .shl (.c (.one (.st (.int .u64 1)))) (.t 14)), .i 16 (.bits .or (.t 13) (.t 15)), .m 3 16]))) (.ops [.i 17 (.bin .add (.t 9) (.n 1)), .m 9 17]))))))) (.seq (.ops [.m 18 3, .m 2 18]) .ret))))
theorem G2 : OkF Try.prog 31 19 [] EE [.t 2] := .of Try.func31 rfl rfl (by kernel_rfl) rfl
def A_ : IR :=
 (.seq (.ops [.i 2 (.box 25 (.t 0)), .i 3 (.box 28 (.t 1)), .i 4 (.mov (.c (.one (.st (.bool false))))), .i 5 (.mov (.n 0))]) (.seq (.ops [.L 7 3 2, .i 8 (.call 14 [.t 7]), .m 6 8]) (.seq (.seq (.ops [.m 9 6, .i 10 (.bin .eql (.t 9) (.n 0))]) (.cond (.t 10) (.ops [.L 11 2 3, .i 12 (.call 28 [.t 11]), .m 6 12]) .skip)) (.seq (.seq (.ops [.m 13 6, .i 14 (.bin .eql (.t 13) (.n 0)), .m 15 14, .mk (some 16) (some (15, true)) (.load true 2 (.t 3)) .no, .mk (some 17) (some (15, true)) (.call 29 [.t 16]) .no, .mk (some 18) (some (15, true)) (.len false (.t 17)) .no, .mk (some 19) (some (15, true)) (.bin .gtr (.t 18) (.n 0)) .no, .i 20 (.pick (.t 15) (.t 19) (.c (.one (.st (.bool false)))))]) (.cond (.t 20) (.ops [.i 6 (.mov (.n 15))]) .skip)) (.seq (.seq (.ops [.m 21 6, .i 22 (.bin .neq (.t 21) (.n 0))]) (.cond (.t 22) (.seq (.ops [.m 23 6, .i 4 (.mov (.c (.one (.st (.bool false))))), .m 5 23]) .ret) .skip)) (.seq (.ops [.L 24 3 2, .L 25 2 3, .i 26 (.call 30 [.t 24, .t 25]), .L 27 3 2, .i 28 (.call 31 [.t 27]), .i 29 (.bits .and (.t 26) (.t 28)), .i 30 (.bin .neq (.t 29) (.c (.one (.st (.int .u64 0))))), .m 4 30, .i 5 (.mov (.n 0))]) .ret))))))
theorem BN : OkF Try.prog 12 31 [] A_ [.t 4, .t 5] := .of Try.func12 rfl rfl (by kernel_rfl) rfl
def DN : IR :=
 (.seq (.ops [.i 2 (.box 28 (.t 0)), .i 3 (.box 28 (.t 1)), .i 4 (.mov (.c (.one (.st (.bool false)))))]) (.seq (.seq (.ops [.L 6 2 2, .i 7 (.call 32 [.t 6]), .L 8 2 3, .i 9 (.call 32 [.t 8]), .i 10 (.bin .sub (.t 7) (.t 9)), .m 5 10]) (.seq (.ops [.m 11 5, .i 12 (.bin .neq (.t 11) (.n 0))]) (.cond (.t 12) (.seq (.ops [.m 13 5, .i 14 (.bin .lss (.t 13) (.n 0)), .m 4 14]) .ret) .skip))) (.seq (.ops [.L 15 2 2, .i 16 (.call 45 [.t 15]), .L 17 2 3, .i 18 (.call 45 [.t 17]), .i 19 (.bin .lss (.t 16) (.t 18)), .m 4 19]) .ret)))
theorem Ee : OkF Try.prog 33 20 [] DN [.t 4] := .of Try.func33 rfl rfl (by kernel_rfl) rfl
def Ex : IR :=
 (.seq (.ops [.i 1 (.box 25 (.t 0)), .i 2 (.alloc 28 [.st (.str (ByteArray.mk (#[]))), .full []]), .i 3 (.mov (.n 0))]) (.seq (.seq (.ops [.L 15 3 1, .i 16 (.call 14 [.t 15]), .m 4 16]) (.seq (.ops [.m 17 4, .i 18 (.bin .neq (.t 17) (.n 0))]) (.cond (.t 18) (.seq (.ops [.i 19 (.build [.st (.str (ByteArray.mk (#[]))), .full []] []), .m 20 4, .s 2 2 19, .m 3 20]) .ret) .skip))) (.seq (.ops [.f 21 0 1, .l 22 21, .i 23 (.makeSlice 65 1 8 [.lit (.pointer none)] (.t 22) (.t 22)), .m 5 23]) (.seq (.seq (.ops [.i 6 (.mov (.c (.one (.st (.bool true)))))]) (.block 0 (.loop (.seq (.seq (.ops [.m 24 6]) (.cond (.t 24) .skip (.exit 0))) (.block 1 (.seq (.ops [.i 6 (.mov (.c (.one (.st (.bool false)))))]) (.seq (.ops [.f 25 1 1, .l 26 25, .i 27 (.len false (.t 26)), .i 28 (.mov (.n 0))]) (.block 2 (.loop (.seq (.ops [.i 29 (.bin .lss (.t 28) (.t 27))]) (.seq (.cond (.t 29) .skip (.exit 2)) (.seq (.block 3 (.seq (.ops [.i 30 (.indexAddr 3 (.t 26) (.t 28)), .L 31 3 30, .i 8 (.alloc 50 [.st (.str (ByteArray.mk (#[]))), .full [], .st (.int .i64 0)]), .s 3 8 31]) (.seq (.ops [.f 32 0 8, .l 33 32, .i 34 (.build [.st (.str (ByteArray.mk (#[]))), .full []] [(0, 1, .t 33)]), .i 9 (.alloc 28 [.st (.str (ByteArray.mk (#[]))), .full []]), .s 2 9 34]) (.seq (.seq (.ops [.f 35 1 8, .l 36 35, .i 37 (.len false (.t 36)), .i 38 (.mov (.n 0))]) (.block 4 (.loop (.seq (.ops [.i 39 (.bin .lss (.t 38) (.t 37))]) (.seq (.cond (.t 39) .skip (.exit 4)) (.seq (.block 5 (.seq (.ops [.i 40 (.indexAddr 1 (.t 36) (.t 38)), .l 41 40, .m 11 41]) (.seq (.seq (.ops [.m 42 5, .m 43 11, .i 44 (.indexAddr 1 (.t 42) (.t 43)), .l 45 44, .i 46 (.eqP false (.t 45))]) (.cond (.t 46) (.seq (.ops [.f 47 0 9, .mk none none (.store 1 (.t 47) (.c (.one (.st (.str (ByteArray.mk (#[]))))))) .no]) (.exit 4)) .skip)) (.ops [.f 48 1 9, .l 49 48, .m 50 5, .m 51 11, .i 52 (.indexAddr 1 (.t 50) (.t 51)), .l 53 52, .i 54 (.nilCheck (.t 53)), .L 55 2 54, .i 56 (.len false (.t 49)), .i 57 (.buildSlice false 28 2 [.c (.agg [.st (.str (ByteArray.mk (#[]))), .full []])]), .i 58 (.append true 28 2 40 (.t 49) (.t 57)), .i 59 (.indexAddr 2 (.t 58) (.t 56)), .mk none none (.store 2 (.t 59) (.t 55)) (.onb 959), .mk (some 60) none (.fieldAddr 1 (.t 9)) (.onb 9), .mk none none (.store 1 (.t 60) (.t 58)) (.onb 9)])))) (.ops [.i 61 (.bin .add (.t 38) (.n 1)), .m 38 61]))))))) (.seq (.seq (.ops [.f 62 0 9, .l 63 62, .i 64 (.bin .eql (.t 63) (.c (.one (.st (.str (ByteArray.mk (#[]))))))), .m 65 64, .mk (some 66) (some (65, false)) (.load true 2 (.t 9)) .no, .mk (some 67) (some (65, false)) (.call 32 [.t 66]) .no, .mk (some 68) (some (65, false)) (.bin .gtr (.t 67) (.n 2000)) .no, .i 69 (.pick (.t 65) (.c (.one (.st (.bool true)))) (.t 68))]) (.cond (.t 69) (.exit 3) .skip)) (.seq (.ops [.m 70 5, .f 71 2 8, .l 72 71, .i 73 (.indexAddr 1 (.t 70) (.t 72)), .l 74 73, .i 75 (.eqP false (.t 74)), .m 76 75, .mk (some 77) (some (76, false)) (.load true 2 (.t 9)) .no, .mk (some 78) (some (76, false)) (.mov (.t 5)) .no, .mk (some 79) (some (76, false)) (.fieldAddr 2 (.t 8)) .no, .mk (some 80) (some (76, false)) (.load false 1 (.t 79)) .no, .mk (some 81) (some (76, false)) (.indexAddr 1 (.t 78) (.t 80)) .no, .mk (some 82) (some (76, false)) (.load false 1 (.t 81)) .no, .mk (some 83) (some (76, false)) (.nilCheck (.t 82)) .no, .mk (some 84) (some (76, false)) (.load true 2 (.t 83)) .no, .mk (some 85) (some (76, false)) (.call 33 [.t 77, .t 84]) .no, .i 86 (.pick (.t 76) (.c (.one (.st (.bool true)))) (.t 85))]) (.cond (.t 86) (.seq (.ops [.m 87 5, .f 88 2 8, .l 89 88, .i 90 (.indexAddr 1 (.t 87) (.t 89)), .s 1 90 9]) (.ops [.i 6 (.mov (.c (.one (.st (.bool true)))))])) .skip))))))) (.ops [.i 91 (.bin .add (.t 28) (.n 1)), .m 28 91]))))))))))))) (.seq (.ops [.i 12 (.mov (.c (.one (.st (.lit (.pointer none))))))]) (.seq (.seq (.ops [.f 92 2 1, .l 93 92, .i 94 (.len false (.t 93)), .i 95 (.mov (.n 0))]) (.block 6 (.loop (.seq (.ops [.i 96 (.bin .lss (.t 95) (.t 94))]) (.seq (.cond (.t 96) .skip (.exit 6)) (.seq (.block 7 (.seq (.ops [.i 97 (.indexAddr 1 (.t 93) (.t 95)), .l 98 97, .m 14 98]) (.seq (.ops [.m 99 5, .m 100 14, .i 101 (.indexAddr 1 (.t 99) (.t 100)), .l 102 101, .i 103 (.eqP true (.t 102)), .m 104 103, .mk (some 105) (some (104, true)) (.mov (.t 12)) .no, .mk (some 106) (some (104, true)) (.eqP false (.t 105)) .no, .mk (some 107) (some (104, true)) (.mov (.t 106)) .no, .mk (some 108) (some (107, false)) (.mov (.t 5)) .no, .mk (some 109) (some (107, false)) (.mov (.t 14)) .no, .mk (some 110) (some (107, false)) (.indexAddr 1 (.t 108) (.t 109)) .no, .mk (some 111) (some (107, false)) (.load false 1 (.t 110)) .no, .mk (some 112) (some (107, false)) (.nilCheck (.t 111)) .no, .mk (some 113) (some (107, false)) (.load true 2 (.t 112)) .no, .mk (some 114) (some (107, false)) (.mov (.t 12)) .no, .mk (some 115) (some (107, false)) (.nilCheck (.t 114)) .no, .mk (some 116) (some (107, false)) (.load true 2 (.t 115)) .no, .mk (some 117) (some (107, false)) (.call 33 [.t 113, .t 116]) .no, .mk (some 118) (some (104, true)) (.pick (.t 107) (.c (.one (.st (.bool true)))) (.t 117)) .no, .i 119 (.pick (.t 104) (.t 118) (.c (.one (.st (.bool false)))))]) (.cond (.t 119) (.ops [.m 120 5, .m 121 14, .i 122 (.indexAddr 1 (.t 120) (.t 121)), .l 123 122, .m 12 123]) .skip)))) (.ops [.i 124 (.bin .add (.t 95) (.n 1)), .m 95 124]))))))) (.seq (.seq (.ops [.m 125 12, .i 126 (.eqP false (.t 125))]) (.cond (.t 126) (.seq (.ops [.i 127 (.build [.st (.str (ByteArray.mk (#[]))), .full []] []), .s 2 2 127, .i 3 (.mov (.n 7))]) .ret) .skip)) (.seq (.ops [.m 128 12, .i 129 (.nilCheck (.t 128)), .L 130 2 129, .i 131 (.call 34 [.t 130]), .s 2 2 131, .i 3 (.mov (.n 0))]) .ret))))))))
theorem Hy : OkF Try.prog 13 132 [58, 10590959] Ex [.cell 2 true 2, .t 3] := .of Try.func13 rfl rfl (by kernel_rfl) rfl

def bN : List Bool → Nat
 | [] => 0
 | b :: bs => b.toNat + 2 * bN bs
theorem OI (b : Bool) (bs : List Bool) : (b.toNat + 2 * bN bs) / 2 = bN bs := by cases b <;> simp [Bool.toNat] <;> omega
theorem Bj : ∀ (l : List Bool) (i : Nat), (bN l).testBit i = l.getD i false
 | [], i => by simp [bN]
 | b :: bs, 0 => by
  rw [bN, Nat.testBit_zero]
  cases b <;> simp [Bool.toNat] <;> omega
 | b :: bs, i + 1 => by
  rw [bN, Nat.testBit_succ, OI, Bj bs i]
  simp
theorem OL : ∀ l : List Bool, bN l < 2 ^ l.length
 | [] => by simp [bN]
 | b :: bs => by
  have h := OL bs
  rw [bN, List.length_cons, Nat.pow_succ]
  cases b <;> simp [Bool.toNat] <;> omega
theorem KY (n : Nat) : bN (List.replicate n false) = 0 := by
 induction n with
 | zero => rfl
 | succ n ih => rw [List.replicate_succ, bN, ih]; rfl
theorem Mb {l : List Bool} {i : Nat} (h : i < l.length) : bN l ||| 2 ^ i = bN (l.set i true) := by
 refine Nat.eq_of_testBit_eq fun j => ?_
 rw [Nat.testBit_or, Bj, Bj, Nat.testBit_two_pow]
 by_cases hj : i = j
 ·subst hj
  simp [List.getD_eq_getElem?_getD, h]
 ·simp [List.getD_eq_getElem?_getD, List.getElem?_set_ne hj, hj]
theorem OS (l : List Bool) (s : Nat) : bN l / 2 ^ s % 2 = (l.getD s false).toNat := by
 rw [← Bj, Nat.testBit_eq_decide_div_mod_eq]
 have : bN l / 2 ^ s % 2 < 2 := Nat.mod_lt _ (by omega)
 by_cases h : bN l / 2 ^ s % 2 = 1
 ·simp [h]
 ·simp [h]; omega
theorem Nt (x : Nat) : x &&& 1 = x % 2 := Nat.and_one_is_mod x
theorem GQ {l : List Bool} (h : l.length ≤ 64) : bN l ≤ 18446744073709551615 := by
 have h1 := OL l
 have h2 : 2 ^ l.length ≤ 2 ^ 64 := Nat.pow_le_pow_right (by omega) h
 have h3 : (2 : Nat) ^ 64 = 18446744073709551616 := by decide
 omega
def Au.lastB (a : Au) : List Bool := a.last.foldl (fun l s => l.set s.toNat true) (List.replicate a.states.toNat false)
theorem CG : ∀ (ss : List Int) (l : List Bool), (ss.foldl (fun l s => l.set s.toNat true) l).length = l.length
 | [], _ => rfl
 | s :: ss, l => by rw [List.foldl_cons, CG ss]; simp
theorem Ei (i : Nat) : ∀ (ss : List Int) (l : List Bool), i < l.length → (ss.foldl (fun l s => l.set s.toNat true) l).getD i false = (l.getD i false || ss.any fun s => decide (s.toNat = i))
 | [], l, h => by simp
 | s :: ss, l, h => by
  rw [List.foldl_cons, Ei i ss _ (by simpa using h), List.any_cons, ← Bool.or_assoc]
  congr 1
  by_cases he : s.toNat = i
  ·subst he
   simp [List.getD_eq_getElem?_getD, h]
  ·simp [List.getD_eq_getElem?_getD, List.getElem?_set_ne he, he]
theorem Au.lastB_length (a : Au) : a.lastB.length = a.states.toNat := by
 unfold Au.lastB
 rw [CG]
 simp
theorem Au.lastB_get (a : Au) (i : Nat) (h : i < a.states.toNat) : a.lastB.getD i false = a.last.any fun s => decide (s.toNat = i) := by
 unfold Au.lastB
 rw [Ei _ _ _ (by simpa using h)]
 simp [List.getD_eq_getElem?_getD, h]
theorem Mt {a : Au} (ga : a.Good) (t : Tm) : (bN (a.ends t) &&& bN a.lastB ≠ 0) ↔ a.acc t = true := by
 unfold Au.acc
 rw [List.any_eq_true]
 constructor
 ·intro h
  obtain ⟨i, hi⟩ := Nat.exists_testBit_of_ne_zero h
  rw [Nat.testBit_and, Bj, Bj, Bool.and_eq_true] at hi
  have hl : i < a.states.toNat := by
   rcases Nat.lt_or_ge i a.lastB.length with q | q
   ·rwa [← a.lastB_length]
   ·have h2 := hi.2
    rw [List.getD_eq_getElem?_getD, List.getElem?_eq_none q] at h2
    cases h2
  rw [a.lastB_get i hl, List.any_eq_true] at hi
  obtain ⟨h1, s, hs, he⟩ := hi
  exact ⟨s, hs, by rw [of_decide_eq_true he]; exact h1⟩
 ·rintro ⟨s, hs, h⟩ h0
  have hb := ga.last s hs
  have := congrArg (fun n => Nat.testBit n s.toNat) h0
  simp only [Nat.testBit_and, Bj, Nat.zero_testBit] at this
  rw [h, a.lastB_get _ (by omega), Bool.true_and, List.any_eq_false] at this
  exact this s hs (by simp)

def Lt (l : List Bool) : List SV := [.int .u64 (bN l)]
abbrev aU (l : List Bool) : AV := .one (.st (.int .u64 (bN l)))
abbrev aUs (l : List (List Bool)) : AV := .one (.st (.list (l.map Lt)))
theorem NP (n k : Nat) : ((n : Int)).fdiv (2 ^ k) = ((n / 2 ^ k : Nat) : Int) := by
 rw [show ((2 : Int) ^ k) = ((2 ^ k : Nat) : Int) by simp, Int.fdiv_eq_ediv_of_nonneg _ (Int.natCast_nonneg _)]
 exact (Int.natCast_ediv _ _).symm
theorem L9 (k : Nat) : (1 : Int) * 2 ^ k = ((2 ^ k : Nat) : Int) := by simp
theorem Kg {k : Nat} (h : k < 64) : inR .u64 ((2 ^ k : Nat) : Int) := by
 rw [DD]
 have h2 : 2 ^ k ≤ 2 ^ 63 := Nat.pow_le_pow_right (by omega) (by omega)
 have h3 : (2 : Nat) ^ 63 = 9223372036854775808 := by decide
 generalize 2 ^ k = p at *
 omega
theorem Na {l : List Bool} (h : l.length ≤ 64) : inR .u64 (bN l) := by
 rw [DD]
 have := GQ h
 omega
theorem OZ {l : List Bool} (h : l.length ≤ 64) (k : Nat) : inR .u64 ((bN l / 2 ^ k : Nat) : Int) := by
 rw [DD]
 have := GQ h
 have h2 := Nat.div_le_self (bN l) (2 ^ k)
 generalize bN l / 2 ^ k = p at *
 omega
theorem N_ : (1 : Int).toNat = 1 := rfl
theorem Lz {ts : List (List Bool)} : ∀ x ∈ ts.map Lt, x.length = 1 := by
 intro x hx
 obtain ⟨a, _, rfl⟩ := List.mem_map.1 hx
 rfl
theorem N3 (a : Au) (ga : a.Good) (hs64 : a.states ≤ 64) (hm : a.moves.length ≤ 100000) (n : ByteArray) (below : List (List Bool)) (hb : ∀ l ∈ below, l.length = a.states.toNat) (hbl : below.length ≤ 1000000) :
  Ac Try.prog 44 [aAu a, Ed n, aUs below] (aU (a.ending n below)) := by
 have hst := ga.states
 have h0 : bN (List.replicate a.states.toNat false) = 0 := KY _
 refine G4.ac fun C hC => ?_
 unfold D_
 repeat' with_reducible first | refine W ?_ | refine Z0 ?_ | ((first | refine Wo fun K hK => ?_ | refine Wp ?_ | refine Wq ?_ | refine Wr ?_); (try simp only [go_sem, fN, seval, eT, iR, dT, dF, nL]); (repeat refine Ai ?_); (try (refine hK _ ?_; clear hK K)); try refine iC ?_)
 refine IWP.loopD [9] (fun q s => ∃ k, k ≤ a.moves.length ∧ q = a.moves.length - k ∧ s.env 1 = Ed n ∧ s.env 2 = aUs below ∧ s.env 3 = .one (.ptr 3 1 0 0) ∧ s.S 3 = some (Aq a) ∧ s.env 7 = aU ((a.moves.take k).foldl (CK n below) (List.replicate a.states.toNat false)) ∧ s.env 14 = .one (.st (.list (a.moves.map BK))) ∧ s.env 15 = AR a.moves.length ∧ s.env 16 = AR k ∧ s.S 9 = none) a.moves.length
  ⟨0, Nat.zero_le _, rfl, rfl, rfl, rfl, rfl, by simp [AE, h0], by simp [AE], by simp [AE], rfl, rfl⟩ ?_
 rintro q ⟨env, St⟩ ⟨k, hk, rfl, e1, e2, e3, s3, e7, e14, e15, e16, s9⟩
 simp only at e1 e2 e3 s3 e7 e14 e15 e16 s9
 unfold Aq at s3
 by_cases hlt : (k : Int) < a.moves.length
 ·obtain ⟨m, hmk⟩ := BB (show k < a.moves.length by omega)
  have hmm := AW hmk
  have hto := ga.to_ m hmm
  have hfold : (a.moves.take (k + 1)).foldl (CK n below) (List.replicate a.states.toNat false) = CK n below ((a.moves.take k).foldl (CK n below) (List.replicate a.states.toNat false)) m := by
   rw [A2 hmk, List.foldl_append]
   rfl
  have hfl := Dm n below (a.moves.take k) (List.replicate a.states.toNat false)
  rw [List.length_replicate] at hfl
  generalize (a.moves.take k).foldl (CK n below) (List.replicate a.states.toNat false) = L at *
  by_cases g1 : m.name = n
  case neg =>
   have hf : m.fits n below = false := by simp [Mv.fits, g1]
   repeat' with_reducible first | refine W ?_ | refine Z0 ?_ | ((first | refine Wo fun K hK => ?_ | refine Wp ?_ | refine Wq ?_ | refine Wr ?_); (try simp only [go_sem, fN, seval, eT, iR, e1, e2, e3, s3, e7, e14, e15, e16, s9, hlt, hmk, BK, g1, dT, dF, nL]); (repeat refine Ai ?_); (try (refine hK _ ?_; clear hK K)); try refine iC ?_)
   refine AK ⟨a.moves.length - (k + 1), by omega, k + 1, by omega, rfl, ?_⟩
   simp only [go_sem, fN, seval, AS.drop, Ao, AC.clears, AC.clear, AC.highs, AC.high, Bool.not_false, Bool.true_and, Bool.and_self, AV.purge, AV.purges, AC.purge, AI.purge, List.contains_cons, List.contains_nil, Nat.reduceBEq, Bool.or_self, Bool.or_false, Bool.false_or, Bool.or_true, eT, iR, e1, e2, e3, s3, e7, e14, e15, e16, s9, Aq]
   simp [hfold, CK, hf]
  case pos =>
  by_cases g2 : (m.frm.length : Int) = below.length
  case neg =>
   have hf : m.fits n below = false := by
    unfold Mv.fits
    rw [HZ (by omega)]
    simp
   repeat' with_reducible first | refine W ?_ | refine Z0 ?_ | ((first | refine Wo fun K hK => ?_ | refine Wp ?_ | refine Wq ?_ | refine Wr ?_); (try simp only [go_sem, fN, seval, eT, iR, e1, e2, e3, s3, e7, e14, e15, e16, s9, hlt, hmk, BK, g1, g2, dT, dF, nL]); (repeat refine Ai ?_); (try (refine hK _ ?_; clear hK K)); try refine iC ?_)
   refine AK ⟨a.moves.length - (k + 1), by omega, k + 1, by omega, rfl, ?_⟩
   simp only [go_sem, fN, seval, AS.drop, Ao, AC.clears, AC.clear, AC.highs, AC.high, Bool.not_false, Bool.true_and, Bool.and_self, AV.purge, AV.purges, AC.purge, AI.purge, List.contains_cons, List.contains_nil, Nat.reduceBEq, Bool.or_self, Bool.or_false, Bool.false_or, Bool.or_true, eT, iR, e1, e2, e3, s3, e7, e14, e15, e16, s9, Aq]
   simp [hfold, CK, hf]
  case pos =>
  have g2' : m.frm.length = below.length := by omega
  repeat' with_reducible first | refine W ?_ | refine Z0 ?_ | ((first | refine Wo fun K hK => ?_ | refine Wp ?_ | refine Wq ?_ | refine Wr ?_); (try simp only [go_sem, fN, seval, eT, iR, e1, e2, e3, s3, e7, e14, e15, e16, s9, hlt, hmk, BK, g1, g2, dT, dF, nL]); (repeat refine Ai ?_); (try (refine hK _ ?_; clear hK K)); try refine iC ?_)
  refine IWP.loop (fun q s => ∃ j, j ≤ below.length ∧ q = below.length - j ∧ s.env 1 = Ed n ∧ s.env 2 = aUs below ∧ s.env 3 = .one (.ptr 3 1 0 0) ∧ s.S 3 = some (Aq a) ∧ s.env 7 = aU L ∧ s.env 14 = .one (.st (.list (a.moves.map BK))) ∧ s.env 15 = AR a.moves.length ∧ s.env 16 = AR k ∧ s.env 9 = .one (.ptr 9 1 0 0) ∧ s.S 9 = some (.box 50 [.st (.str m.name), .st (.list (m.frm.map CO)), .st (.int .i64 m.to_)]) ∧ s.env 10 = BX (Bk (below.take j) (m.frm.take j)) ∧ s.env 33 = .one (.st (.list (m.frm.map CO))) ∧ s.env 34 = AR below.length ∧ s.env 35 = AR j) below.length
   ⟨0, Nat.zero_le _, rfl, by simp [AE, e1], by simp [AE, e2], by simp [AE, e3], by simp [AE, Aq, s3], by simp [AE, e7], by simp [AE, e14], by simp [AE, e15], by simp [AE, e16], by simp [AE], by simp [AE, g1], by simp [AE, Bk], by simp [AE], by simp [AE, g2], by simp [AE]⟩ ?_
  rintro q ⟨env2, S2⟩ ⟨j, hj, rfl, f1, f2, f3, t3, f7, f14, f15, f16, f9, t9, f10, f33, f34, f35⟩
  simp only at f1 f2 f3 t3 f7 f14 f15 f16 f9 t9 f10 f33 f34 f35
  unfold Aq at t3
  by_cases hjl : (j : Int) < below.length
  ·obtain ⟨bl, hbj⟩ := BB (show j < below.length by omega)
   obtain ⟨x, hx⟩ := BB (show j < m.frm.length by omega)
   have qx := ga.frm m hmm x (AW hx)
   have hbll := hb bl (AW hbj)
   have hst2 := F7 hbj hx
   have hsh := OZ (l := bl) (by omega) x.toNat
   have hbit := OS bl x.toNat
   rw [← Nt] at hbit
   have q64 : 0 ≤ x ∧ x.toNat ≤ 64 := by omega
   generalize bl.getD x.toNat false = y at hbit hst2
   generalize Bk (below.take j) (m.frm.take j) = ok at f10 hst2
   cases ok with
   | true =>
    cases y <;> simp only [Bool.toNat_true, Bool.toNat_false] at hbit
    all_goals
     repeat' with_reducible first | refine W ?_ | refine Z0 ?_ | ((first | refine Wo fun K hK => ?_ | refine Wp ?_ | refine Wq ?_ | refine Wr ?_); (try simp only [go_sem, fN, seval, eT, iR, f1, f2, f3, t3, f7, f14, f15, f16, f9, t9, f10, f33, f34, f35, hjl, hbj, hx, Lt, NP, hsh, hbit, q64, N_, Int.toNat_natCast, G9, IntKind.bits, dT, dF, nL]); (repeat refine Ai ?_); (try (refine hK _ ?_; clear hK K)); try refine iC ?_)
     refine AK ⟨below.length - (j + 1), by omega, j + 1, by omega, rfl, ?_⟩
     simp only [go_sem, fN, seval, eT, iR, f1, f2, f3, t3, f7, f14, f15, f16, f9, t9, f10, f33, f34, f35, Aq]
     simp [hst2]
   | false =>
    repeat' with_reducible first | refine W ?_ | refine Z0 ?_ | ((first | refine Wo fun K hK => ?_ | refine Wp ?_ | refine Wq ?_ | refine Wr ?_); (try simp only [go_sem, fN, seval, eT, iR, f1, f2, f3, t3, f7, f14, f15, f16, f9, t9, f10, f33, f34, f35, hjl, hbj, hx, dT, dF, nL]); (repeat refine Ai ?_); (try (refine hK _ ?_; clear hK K)); try refine iC ?_)
    refine AK ⟨below.length - (j + 1), by omega, j + 1, by omega, rfl, ?_⟩
    simp only [go_sem, fN, seval, eT, iR, f1, f2, f3, t3, f7, f14, f15, f16, f9, t9, f10, f33, f34, f35, Aq]
    simp [hst2]
  ·rw [List.take_of_length_le (l := below) (i := j) (by omega), List.take_of_length_le (l := m.frm) (i := j) (by omega)] at f10
   have hf : m.fits n below = Bk below m.frm := by simp [Mv.fits, g1]
   have hor := Mb (l := L) (i := m.to_.toNat) (by omega)
   have hip := Kg (k := m.to_.toNat) (by omega)
   have q64 : 0 ≤ m.to_ ∧ m.to_.toNat ≤ 64 := by omega
   by_cases g3 : Bk below m.frm = true
   ·rw [g3] at f10 hf
    repeat' with_reducible first | refine W ?_ | refine Z0 ?_ | ((first | refine Wo fun K hK => ?_ | refine Wp ?_ | refine Wq ?_ | refine Wr ?_); (try simp only [go_sem, fN, seval, eT, iR, f1, f2, f3, t3, f7, f14, f15, f16, f9, t9, f10, f33, f34, f35, hjl, L9, hip, q64, Int.toNat_natCast, G9, IntKind.bits, hor, dT, dF, nL]); (repeat refine Ai ?_); (try (refine hK _ ?_; clear hK K)); try refine iC ?_)
    refine AK ⟨a.moves.length - (k + 1), by omega, k + 1, by omega, rfl, ?_⟩
    simp only [go_sem, fN, seval, AS.drop, Ao, AC.clears, AC.clear, AC.highs, AC.high, Bool.not_false, Bool.true_and, Bool.and_self, AV.purge, AV.purges, AC.purge, AI.purge, List.contains_cons, List.contains_nil, Nat.reduceBEq, Bool.or_self, Bool.or_false, Bool.false_or, Bool.or_true, eT, iR, f1, f2, f3, t3, f7, f14, f15, f16, f9, t9, f10, Aq]
    simp [hfold, CK, hf]
   ·have g3' : Bk below m.frm = false := by simpa using g3
    rw [g3'] at f10 hf
    repeat' with_reducible first | refine W ?_ | refine Z0 ?_ | ((first | refine Wo fun K hK => ?_ | refine Wp ?_ | refine Wq ?_ | refine Wr ?_); (try simp only [go_sem, fN, seval, eT, iR, f1, f2, f3, t3, f7, f14, f15, f16, f9, t9, f10, f33, f34, f35, hjl, dT, dF, nL]); (repeat refine Ai ?_); (try (refine hK _ ?_; clear hK K)); try refine iC ?_)
    refine AK ⟨a.moves.length - (k + 1), by omega, k + 1, by omega, rfl, ?_⟩
    simp only [go_sem, fN, seval, AS.drop, Ao, AC.clears, AC.clear, AC.highs, AC.high, Bool.not_false, Bool.true_and, Bool.and_self, AV.purge, AV.purges, AC.purge, AI.purge, List.contains_cons, List.contains_nil, Nat.reduceBEq, Bool.or_self, Bool.or_false, Bool.false_or, Bool.or_true, eT, iR, f1, f2, f3, t3, f7, f14, f15, f16, f9, t9, f10, Aq]
    simp [hfold, CK, hf]
 ·rw [List.take_of_length_le (l := a.moves) (i := k) (by omega)] at e7
  have hle : a.ending n below = a.moves.foldl (CK n below) (List.replicate a.states.toNat false) := rfl
  rw [← hle] at e7
  repeat' with_reducible first | refine W ?_ | refine Z0 ?_ | ((first | refine Wo fun K hK => ?_ | refine Wp ?_ | refine Wq ?_ | refine Wr ?_); (try simp only [go_sem, fN, seval, eT, iR, e1, e2, e3, s3, e7, e14, e15, e16, hlt, dT, dF, nL]); (repeat refine Ai ?_); (try (refine hK _ ?_; clear hK K)); try refine iC ?_)
  simp only [go_sem, fN, seval, Af, AS.result, AH, AM, AY, e7]
theorem On (a : Au) (ga : a.Good) (hs64 : a.states ≤ 64) (hm : a.moves.length ≤ 100000) (t : Tm) (hz : t.size ≤ 1000000) : Ac Try.prog 30 [aAu a, aTm t] (aU (a.ends t)) := by
 induction h : SizeOf.sizeOf t using Nat.strongRecOn generalizing t with
 | _ N ih =>
 subst h
 have hs := Tm.size_eq t
 have hkn := Tm.length_le t.args
 refine JH.ac fun C hC => ?_
 unfold FR
 repeat' with_reducible first | refine W ?_ | refine Z0 ?_ | ((first | refine Wo fun K hK => ?_ | refine Wp ?_ | refine Wq ?_ | refine Wr ?_); (try simp only [go_sem, fN, seval, eT, iR, dT, dF, nL]); (repeat refine Ai ?_); (try (refine hK _ ?_; clear hK K)); try refine iC ?_)
 refine IWP.ghost (AZ.own (C := C) 5 50 61 1 (xs := ([] : List (List Bool)).map Lt) rfl rfl Lz (by omega)) ?_
 refine IWP.loopD [7] (fun q s => ∃ k, k ≤ t.args.length ∧ q = t.args.length - k ∧ s.env 2 = .one (.ptr 2 1 0 0) ∧ s.S 2 = some (Aq a) ∧ s.env 3 = .one (.ptr 3 1 0 0) ∧ s.S 3 = some (.box 28 [.st (.str t.name), .st (.list (t.args.map BY))]) ∧ s.env 5 = .one (.row 50 k) ∧ s.S 50 = some (.arow 61 1 (((t.args.take k).map a.ends).map Lt)) ∧ s.env 9 = Ok t.args ∧ s.env 10 = AR t.args.length ∧ s.env 11 = AR k ∧ s.S 7 = none) t.args.length
  ⟨0, Nat.zero_le _, rfl, rfl, rfl, rfl, rfl, rfl, rfl, rfl, rfl, rfl, rfl⟩ ?_
 rintro q ⟨env, St⟩ ⟨k, hk, rfl, e2, s2, e3, s3, e5, s50, e9, e10, e11, s7⟩
 simp only at e2 s2 e3 s3 e5 s50 e9 e10 e11 s7
 unfold Aq at s2
 by_cases hlt : (k : Int) < t.args.length
 ·obtain ⟨x, hx⟩ := BB (show k < t.args.length by omega)
  have hxm := AW hx
  have hsz := Tm.size_mem hxm
  have hkl : ((t.args.take k).map a.ends).length = k := by
   rw [List.length_map, List.length_take]
   omega
  repeat' (first | (with_reducible first | refine W ?_ | refine Z0 ?_ | ((first | refine Wo fun K hK => ?_ | refine Wp ?_ | refine Wq ?_ | refine Wr ?_); (try simp only [go_sem, fN, seval, eT, iR, e2, s2, e3, s3, e5, s50, e9, e10, e11, s7, hlt, hx, hkl, dT, dF, nL]); (repeat refine Ai ?_); (try (refine hK _ ?_; clear hK K)); try refine iC ?_)) | refine Cg _ (ih _ (Tm.lt_of_arg hxm) x (by omega) rfl) ?_)
  refine AK ⟨t.args.length - (k + 1), by omega, k + 1, by omega, rfl, ?_⟩
  simp only [go_sem, fN, seval, AS.drop, Ao, AC.clears, AC.clear, AC.highs, AC.high, Bool.not_false, Bool.true_and, Bool.and_self, AV.purge, AV.purges, AC.purge, AI.purge, List.contains_cons, List.contains_nil, Nat.reduceBEq, Bool.or_self, Bool.or_false, Bool.false_or, Bool.or_true, eT, iR, e2, s2, e3, s3, e5, s50, e9, e10, e11, s7, Aq]
  rw [A2 hx]
  simp [Lt]
  try omega
 ·rw [List.take_of_length_le (l := t.args) (i := k) (by omega)] at s50
  have hkl : (t.args.map a.ends).length = t.args.length := List.length_map _
  have hke : k = t.args.length := by omega
  have hE := N3 a ga hs64 hm t.name (t.args.map a.ends) (fun l hl => by
   obtain ⟨y, _, rfl⟩ := List.mem_map.1 hl
   exact a.ends_length y) (by omega)
  repeat' (first | (with_reducible first | refine W ?_ | refine Z0 ?_ | ((first | refine Wo fun K hK => ?_ | refine Wp ?_ | refine Wq ?_ | refine Wr ?_); (try simp only [go_sem, fN, seval, eT, iR, e2, s2, e3, s3, e5, s50, e9, e10, e11, hlt, hke, hkl, Nat.lt_irrefl, dT, dF, nL]); (repeat refine Ai ?_); (try (refine hK _ ?_; clear hK K)); try refine iC ?_)) | refine Cg _ (hE) ?_)
  simp only [go_sem, fN, seval, Af, AS.result, AH, AM, AY]
  rw [Au.ends_eq, Au.endsL_eq]
theorem NE (a : Au) (ga : a.Good) (hs64 : a.states ≤ 64) (hl : a.last.length ≤ 100000) : Ac Try.prog 31 [aAu a] (aU a.lastB) := by
 have hst := ga.states
 have h0 : bN (List.replicate a.states.toNat false) = 0 := KY _
 refine G2.ac fun C hC => ?_
 unfold EE
 repeat' with_reducible first | refine W ?_ | refine Z0 ?_ | ((first | refine Wo fun K hK => ?_ | refine Wp ?_ | refine Wq ?_ | refine Wr ?_); (try simp only [go_sem, fN, seval, eT, iR, dT, dF, nL]); (repeat refine Ai ?_); (try (refine hK _ ?_; clear hK K)); try refine iC ?_)
 refine IWP.loop (fun q s => ∃ k, k ≤ a.last.length ∧ q = a.last.length - k ∧ s.env 3 = aU ((a.last.take k).foldl (fun l s => l.set s.toNat true) (List.replicate a.states.toNat false)) ∧ s.env 7 = .one (.st (.list (a.last.map CO))) ∧ s.env 8 = AR a.last.length ∧ s.env 9 = AR k) a.last.length ⟨0, Nat.zero_le _, rfl, by simp [AE, h0], rfl, rfl, rfl⟩ ?_
 rintro q ⟨env, St⟩ ⟨k, hk, rfl, e3, e7, e8, e9⟩
 simp only at e3 e7 e8 e9
 by_cases hlt : (k : Int) < a.last.length
 ·obtain ⟨x, hx⟩ := BB (show k < a.last.length by omega)
  have qx := ga.last x (AW hx)
  have hfold : (a.last.take (k + 1)).foldl (fun l s => l.set s.toNat true) (List.replicate a.states.toNat false) = ((a.last.take k).foldl (fun l s => l.set s.toNat true) (List.replicate a.states.toNat false)).set x.toNat true := by
   rw [A2 hx, List.foldl_append]
   rfl
  have hfl := CG (a.last.take k) (List.replicate a.states.toNat false)
  rw [List.length_replicate] at hfl
  generalize (a.last.take k).foldl (fun l s => l.set s.toNat true) (List.replicate a.states.toNat false) = L at *
  have hor := Mb (l := L) (i := x.toNat) (by omega)
  have hip := Kg (k := x.toNat) (by omega)
  have q64 : 0 ≤ x ∧ x.toNat ≤ 64 := by omega
  repeat' with_reducible first | refine W ?_ | refine Z0 ?_ | ((first | refine Wo fun K hK => ?_ | refine Wp ?_ | refine Wq ?_ | refine Wr ?_); (try simp only [go_sem, fN, seval, eT, iR, e3, e7, e8, e9, hlt, hx, L9, hip, q64, Int.toNat_natCast, G9, IntKind.bits, hor, dT, dF, nL]); (repeat refine Ai ?_); (try (refine hK _ ?_; clear hK K)); try refine iC ?_)
  refine AK ⟨a.last.length - (k + 1), by omega, k + 1, by omega, rfl, ?_⟩
  simp only [go_sem, fN, seval, eT, iR, e3, e7, e8, e9]
  simp [hfold]
 ·rw [List.take_of_length_le (l := a.last) (i := k) (by omega)] at e3
  have hle : a.lastB = a.last.foldl (fun l s => l.set s.toNat true) (List.replicate a.states.toNat false) := rfl
  rw [← hle] at e3
  repeat' with_reducible first | refine W ?_ | refine Z0 ?_ | ((first | refine Wo fun K hK => ?_ | refine Wp ?_ | refine Wq ?_ | refine Wr ?_); (try simp only [go_sem, fN, seval, eT, iR, e3, e7, e8, e9, hlt, dT, dF, nL]); (repeat refine Ai ?_); (try (refine hK _ ?_; clear hK K)); try refine iC ?_)
  simp only [go_sem, fN, seval, Af, AS.result, AH, AM, AY, e3]

def sep (k : Nat) : ByteArray := if k = 0 then ⟨#[40]⟩ else ⟨#[44]⟩
mutual
def Tm.text : Tm → ByteArray
 | .mk n xs => n ++ Tm.textsFrom 0 xs ++ (if xs.length = 0 then ⟨#[]⟩ else ⟨#[41]⟩)
def Tm.textsFrom : Nat → List Tm → ByteArray
 | _, [] => ⟨#[]⟩
 | k, t :: ts => sep k ++ t.text ++ Tm.textsFrom (k+1) ts
end
theorem empty_append (b : ByteArray) : (⟨#[]⟩ : ByteArray) ++ b = b := ByteArray.empty_append
theorem append_empty (b : ByteArray) : b ++ (⟨#[]⟩ : ByteArray) = b := ByteArray.append_empty
theorem Tm.text_eq (t : Tm) : t.text = t.name ++ Tm.textsFrom 0 t.args ++ (if t.args.length = 0 then ⟨#[]⟩ else ⟨#[41]⟩) := by cases t; rfl
theorem Tm.textsFrom_snoc (a : Tm) : ∀ (k : Nat) (xs : List Tm), Tm.textsFrom k (xs ++ [a]) = Tm.textsFrom k xs ++ (sep (k + xs.length) ++ a.text)
 | k, [] => by simp [Tm.textsFrom, empty_append, append_empty]
 | k, t :: ts => by
  rw [List.cons_append, Tm.textsFrom, Tm.textsFrom_snoc a (k+1) ts, Tm.textsFrom, List.length_cons, show k + 1 + ts.length = k + (ts.length + 1) by omega]
  simp only [ByteArray.append_assoc]
theorem Tm.textsFrom_append : ∀ (k : Nat) (xs ys : List Tm), Tm.textsFrom k (xs ++ ys) = Tm.textsFrom k xs ++ Tm.textsFrom (k + xs.length) ys
 | k, [], ys => by simp [Tm.textsFrom, empty_append]
 | k, t :: ts, ys => by
  rw [List.cons_append, Tm.textsFrom, Tm.textsFrom_append (k+1) ts, Tm.textsFrom, List.length_cons, show k + 1 + ts.length = k + (ts.length + 1) by omega]
  simp only [ByteArray.append_assoc]
theorem GR (k : Nat) : (sep k).size = 1 := by unfold sep; split <;> rfl
def Tm.ahead (t : Tm) (k : Nat) : ByteArray := t.name ++ Tm.textsFrom 0 (t.args.take k)
theorem Tm.ahead_zero (t : Tm) : t.ahead 0 = t.name := by simp [Tm.ahead, Tm.textsFrom, append_empty]
theorem Tm.ahead_succ {t : Tm} {k : Nat} {a : Tm} (h : t.args[k]? = some a) : t.ahead (k+1) = t.ahead k ++ sep k ++ a.text := by
 have hl := E9 h
 unfold Tm.ahead
 rw [A2 h, Tm.textsFrom_snoc, List.length_take, Nat.min_eq_left (by omega), Nat.zero_add]
 simp only [ByteArray.append_assoc]
theorem Tm.ahead_all {t : Tm} {k : Nat} (h : k = t.args.length) : t.text = t.ahead k ++ (if k = 0 then ⟨#[]⟩ else ⟨#[41]⟩) := by
 subst h
 rw [Tm.text_eq, Tm.ahead, List.take_length]
theorem Tm.ahead_le (t : Tm) (k : Nat) : (t.ahead k).size ≤ t.text.size := by
 rw [Tm.text_eq, Tm.ahead]
 have : t.args = t.args.take k ++ t.args.drop k := (List.take_append_drop k t.args).symm
 conv => rhs; rw [this]
 rw [Tm.textsFrom_append]
 simp only [ByteArray.size_append]
 omega
theorem Fc {t : Tm} (h : CJ t = 0) : 1 ≤ t.name.size ∧ t.name.size ≤ 8 := by
 unfold CJ at h
 split at h
 ·split at h
  ·rename_i h1 _
   simp [As] at h1
   omega
  ·rename_i h1 _
   simp [As] at h1
   omega
 ·omega
mutual
theorem Tm.text_le : ∀ t : Tm, t.chk = 0 → t.text.size + 1 ≤ 10 * t.size
 | .mk n xs, h => by
  rw [Tm.chk_eq] at h
  split at h
  ·rename_i h0
   have h1 := Fc h0
   have h2 := Tm.textsFrom_le 0 xs h
   have h3 : (if xs.length = 0 then (⟨#[]⟩ : ByteArray) else ⟨#[41]⟩).size ≤ 1 := by split <;> simp [ByteArray.size]
   simp only [Tm.name] at h1
   simp only [Tm.text, Tm.size, ByteArray.size_append]
   omega
  ·omega
theorem Tm.textsFrom_le : ∀ (k : Nat) (xs : List Tm), Tm.chkL xs = 0 → (Tm.textsFrom k xs).size ≤ 10 * Tm.sizes xs
 | _, [], _ => by simp [Tm.textsFrom, Tm.sizes, ByteArray.size]
 | k, t :: ts, h => by
  rw [Tm.chkL] at h
  split at h
  ·rename_i h0
   have h1 := Tm.text_le t h0
   have h2 := Tm.textsFrom_le (k+1) ts h
   simp only [Tm.textsFrom, Tm.sizes, ByteArray.size_append, GR]
   omega
  ·omega
end

def Ck (a b : Tm) : Bool := if a.size = b.size then sLt a.text b.text else decide (a.size < b.size)
abbrev Ab := List (Option Tm)
def BO (best : Ab) : List Int → Option (List Tm)
 | [] => some []
 | s :: ss => match best.getD s.toNat none with
  | none => none
  | some t => (BO best ss).map (t :: ·)
def Mv.cand (best : Ab) (m : Mv) : Option Tm := match BO best m.frm with
 | none => none
 | some ts => if (Tm.mk m.name ts).size ≤ 2000 then some (.mk m.name ts) else none
def Mv.gain (best : Ab) (m : Mv) : Option Tm := match m.cand best with
 | none => none
 | some t => match best.getD m.to_.toNat none with
  | none => some t
  | some b => if Ck t b = true then some t else none
def B0 (best : Ab) (m : Mv) : Ab := match m.gain best with
 | none => best
 | some t => best.set m.to_.toNat (some t)
def A8 (p : Ab × Bool) (m : Mv) : Ab × Bool := (B0 p.1 m, p.2 || (m.gain p.1).isSome)
def Fi (ms : List Mv) (best : Ab) : Ab × Bool := ms.foldl A8 (best, false)
def Eh (ms : List Mv) : Nat → Ab → Ab → Prop
 | 0, best, out => Fi ms best = (out, false)
 | n + 1, best, out => (Fi ms best).2 = true ∧ Eh ms n (Fi ms best).1 out
def Df (best : Ab) (o : Option Tm) (s : Int) : Option Tm := match best.getD s.toNat none with
 | none => o
 | some t => match o with
  | none => some t
  | some u => if Ck t u = true then some t else o
def DT (best : Ab) (ss : List Int) : Option Tm := ss.foldl (Df best) none
theorem GE {best : Ab} {s : Int} : ∀ {ss : List Int} {ts : List Tm}, BO best ss = some ts → BO best (ss ++ [s]) = (best.getD s.toNat none).map fun t => ts ++ [t]
 | [], ts, h => by
  cases h
  rw [List.nil_append, BO]
  cases best.getD s.toNat none <;> rfl
 | x :: xs, ts, h => by
  rw [BO] at h
  rw [List.cons_append, BO]
  cases hx : best.getD x.toNat none with
  | none => rw [hx] at h; cases h
  | some t =>
   rw [hx] at h
   simp only at h ⊢
   cases hc : BO best xs with
   | none => rw [hc] at h; cases h
   | some us =>
    rw [hc] at h
    cases h
    rw [GE hc]
    cases best.getD s.toNat none <;> rfl
theorem Gi {best : Ab} : ∀ {ss : List Int} {s : Int}, s ∈ ss → best.getD s.toNat none = none → BO best ss = none
 | x :: xs, s, h, e => by
  rw [BO]
  rcases List.mem_cons.1 h with h | h
  ·subst h
   rw [e]
  ·rw [Gi h e]
   cases best.getD x.toNat none <;> rfl
theorem Ht {best : Ab} : ∀ {ss : List Int} {ts : List Tm}, BO best ss = some ts → ts.length = ss.length
 | [], ts, h => by cases h; rfl
 | x :: xs, ts, h => by
  rw [BO] at h
  cases hx : best.getD x.toNat none with
  | none => rw [hx] at h; cases h
  | some t =>
   rw [hx] at h
   simp only at h
   cases hc : BO best xs with
   | none => rw [hc] at h; cases h
   | some us =>
    rw [hc] at h
    cases h
    simp [Ht hc]
theorem Dv {best : Ab} : ∀ {ss : List Int} {ts : List Tm}, BO best ss = some ts → ∀ t ∈ ts, some t ∈ best
 | [], ts, h, t, ht => by cases h; cases ht
 | x :: xs, ts, h, t, ht => by
  rw [BO] at h
  cases hx : best.getD x.toNat none with
  | none => rw [hx] at h; cases h
  | some u =>
   rw [hx] at h
   simp only at h
   cases hc : BO best xs with
   | none => rw [hc] at h; cases h
   | some us =>
    rw [hc] at h
    cases h
    rcases List.mem_cons.1 ht with ht | ht
    ·subst ht
     rw [List.getD_eq_getElem?_getD] at hx
     cases hg : best[x.toNat]? with
     | none => rw [hg] at hx; cases hx
     | some o =>
      rw [hg] at hx
      cases hx
      exact List.mem_of_getElem? hg
    ·exact Dv hc t ht
theorem HS (best : Ab) (m : Mv) : (B0 best m).length = best.length := by
 unfold B0
 split <;> simp
theorem CR : ∀ (ms : List Mv) (p : Ab × Bool), (ms.foldl A8 p).1.length = p.1.length
 | [], p => rfl
 | m :: ms, p => by rw [List.foldl_cons, CR ms]; exact HS _ _
def Eo (t : Tm) : Prop := t.chk = 0 ∧ t.size ≤ 2000
def CZ (best : Ab) : Prop := ∀ t, some t ∈ best → Eo t
def Fn (m : Mv) : Prop := (As m.name = true ∧ A3 m.name = false) ∧ m.frm.length ≤ 4
theorem I9 : ∀ {ts : List Tm}, (∀ t ∈ ts, t.chk = 0) → Tm.chkL ts = 0
 | [], _ => rfl
 | t :: ts, h => by rw [Tm.chkL, if_pos (h t (by simp))]; exact I9 fun x hx => h x (by simp [hx])
theorem D4 {best : Ab} {m : Mv} {t : Tm} (h : m.gain best = some t) : m.cand best = some t := by
 unfold Mv.gain at h
 split at h
 ·cases h
 ·rename_i u hu
  split at h
  ·cases h
   exact hu
  ·split at h
   ·cases h
    exact hu
   ·cases h
theorem IH {best : Ab} (hb : CZ best) {m : Mv} (hm : Fn m) {t : Tm} (h : m.cand best = some t) : Eo t := by
 unfold Mv.cand at h
 split at h
 ·cases h
 ·rename_i ts hts
  split at h
  ·rename_i hs
   cases h
   refine ⟨?_, hs⟩
   have hl := Ht hts
   have h1 : CJ (.mk m.name ts) = 0 := by
    unfold CJ
    simp [Tm.name, hm.1.1, hm.1.2]
   rw [Tm.chk_eq, if_pos h1]
   exact I9 fun x hx => (hb x (Dv hts x hx)).1
  ·cases h
theorem Jd {best : Ab} (hb : CZ best) {m : Mv} (hm : Fn m) : CZ (B0 best m) := by
 unfold B0
 split
 ·exact hb
 ·rename_i t ht
  intro x hx
  rcases List.mem_or_eq_of_mem_set hx with hx | hx
  ·exact hb x hx
  ·cases hx
   exact IH hb hm (D4 ht)
theorem Cx : ∀ {ms : List Mv} {p : Ab × Bool}, CZ p.1 → (∀ m ∈ ms, Fn m) → CZ (ms.foldl A8 p).1
 | [], p, h, _ => h
 | m :: ms, p, h, hm => by
  rw [List.foldl_cons]
  exact Cx (Jd h (hm m (by simp))) fun x hx => hm x (by simp [hx])
def Fp : Nat → List UInt8 → Nat
 | 0, _ => 0
 | _ + 1, [] => 0
 | L + 1, c :: cs => (c.toNat + 1) * 257 ^ L + Fp L cs
theorem F0 : ∀ (L : Nat) (l : List UInt8), Fp L l < 257 ^ L
 | 0, _ => by simp [Fp]
 | L + 1, [] => by
  rw [Fp]
  exact Nat.pow_pos (by omega)
 | L + 1, c :: cs => by
  have h1 := F0 L cs
  have h2 : c.toNat < 256 := c.toNat_lt
  have h3 : (c.toNat + 1) * 257 ^ L ≤ 256 * 257 ^ L := Nat.mul_le_mul_right _ (by omega)
  rw [Fp, Nat.pow_succ]
  omega
theorem HR : ∀ {L : Nat} {a b : List UInt8}, b.length ≤ L → Op.bytesLess a b = true → Fp L a < Fp L b
 | _, a, [], _, h => by simp [Op.bytesLess] at h
 | 0, a, y :: ys, hl, h => by simp at hl
 | L + 1, [], y :: ys, hl, h => by
  rw [Fp, Fp]
  have := Nat.pow_pos (n := L) (show 0 < 257 by omega)
  have h3 : 1 * 257 ^ L ≤ (y.toNat + 1) * 257 ^ L := Nat.mul_le_mul_right _ (by omega)
  omega
 | L + 1, x :: xs, y :: ys, hl, h => by
  simp only [Op.bytesLess, Bool.or_eq_true, Bool.and_eq_true, decide_eq_true_eq, beq_iff_eq] at h
  rw [Fp, Fp]
  rcases h with h | ⟨rfl, h⟩
  ·have h0 : x.toNat < y.toNat := h
   have h1 := F0 L xs
   have h3 : (x.toNat + 1 + 1) * 257 ^ L ≤ (y.toNat + 1) * 257 ^ L := Nat.mul_le_mul_right _ (by omega)
   rw [Nat.add_mul (x.toNat + 1) 1] at h3
   omega
  ·have := HR (by simpa using hl) h
   omega
def Ja (L : Nat) (t : Tm) : Nat := t.size * 257 ^ L + Fp L t.text.toList
theorem J8 {L : Nat} {a b : Tm} (hb : b.text.toList.length ≤ L) (h : Ck a b = true) : Ja L a < Ja L b := by
 unfold Ck at h
 unfold Ja
 split at h
 ·rename_i e
  have := HR hb h
  rw [e]
  omega
 ·have h0 := of_decide_eq_true h
  have h1 := F0 L a.text.toList
  have h2 : (a.size + 1) * 257 ^ L ≤ b.size * 257 ^ L := Nat.mul_le_mul_right _ h0
  rw [Nat.add_mul] at h2
  omega
def Hg (L : Nat) : Option Tm → Nat
 | none => 2001 * 257 ^ L
 | some t => Ja L t
theorem Lc {L : Nat} {t : Tm} (h : t.size ≤ 2000) : Hg L (some t) < Hg L none := by
 have h1 := F0 L t.text.toList
 have h2 : (t.size + 1) * 257 ^ L ≤ 2001 * 257 ^ L := Nat.mul_le_mul_right _ (by omega)
 rw [Nat.add_mul] at h2
 simp only [Hg, Ja]
 omega
def Cz (L : Nat) (best : Ab) : Nat := (best.map (Hg L)).sum
theorem HF {L : Nat} : ∀ {best : Ab} {i : Nat} {o o' : Option Tm}, best[i]? = some o → Hg L o' < Hg L o → Cz L (best.set i o') < Cz L best
 | [], i, o, o', h, _ => by simp at h
 | x :: xs, 0, o, o', h, hl => by
  simp only [List.getElem?_cons_zero, Option.some.injEq] at h
  subst h
  simp only [Cz, List.set_cons_zero, List.map_cons, List.sum_cons]
  omega
 | x :: xs, i + 1, o, o', h, hl => by
  have := HF (best := xs) (i := i) (by simpa using h) hl
  simp only [Cz, List.set_cons_succ, List.map_cons, List.sum_cons] at this ⊢
  omega
@[irreducible] def Fk : Nat := 20000
theorem OF : Fk = 20000 := by unfold Fk; rfl
theorem GF {t : Tm} (h : Eo t) : t.text.size ≤ 20000 := by
 have h1 := Tm.text_le t h.1
 have := h.2
 omega
theorem N4 {t : Tm} (h : Eo t) : t.text.toList.length ≤ Fk := by
 have := GF h
 rw [Lib.toList_data, Array.length_toList, OF]
 exact this
theorem Jq {best : Ab} (hb : CZ best) {m : Mv} (hm : Fn m) (ht : m.to_.toNat < best.length) : (m.gain best).isSome = true → Cz Fk (B0 best m) < Cz Fk best := by
 intro h
 unfold B0
 cases hg : m.gain best with
 | none => rw [hg] at h; cases h
 | some t =>
  have hok := IH hb hm (D4 hg)
  obtain ⟨o, ho⟩ : ∃ o, best[m.to_.toNat]? = some o := ⟨_, List.getElem?_eq_getElem ht⟩
  have hd : best.getD m.to_.toNat none = o := by rw [List.getD_eq_getElem?_getD, ho]; rfl
  refine HF ho ?_
  cases o with
  | none => exact Lc hok.2
  | some b =>
   unfold Mv.gain at hg
   rw [D4 (best := best) (m := m) (t := t) (by unfold Mv.gain; exact hg), hd] at hg
   simp only at hg
   split at hg
   ·rename_i hl
    exact J8 (N4 (hb b (List.mem_of_getElem? ho))) hl
   ·cases hg
theorem GD {best : Ab} {m : Mv} (h : (m.gain best).isSome = false) : B0 best m = best := by
 unfold B0
 cases hg : m.gain best with
 | none => rfl
 | some t => rw [hg] at h; cases h
theorem Gb : ∀ {ms : List Mv} {p : Ab × Bool}, CZ p.1 → (∀ m ∈ ms, Fn m ∧ m.to_.toNat < p.1.length) → Cz Fk (ms.foldl A8 p).1 ≤ Cz Fk p.1 ∧ ((ms.foldl A8 p).2 = true → p.2 = true ∨ Cz Fk (ms.foldl A8 p).1 < Cz Fk p.1)
 | [], p, _, _ => ⟨Nat.le_refl _, fun h => .inl h⟩
 | m :: ms, p, h, hm => by
  have hm0 := hm m (by simp)
  obtain ⟨h1, h2⟩ := Gb (ms := ms) (p := A8 p m) (Jd h hm0.1) fun x hx => ⟨(hm x (by simp [hx])).1, by
   show _ < (B0 p.1 m).length
   rw [HS]
   exact (hm x (by simp [hx])).2⟩
  rw [List.foldl_cons]
  have e1 : (A8 p m).1 = B0 p.1 m := rfl
  have e2 : (A8 p m).2 = (p.2 || (m.gain p.1).isSome) := rfl
  rw [e1] at h1 h2
  rw [e2] at h2
  cases hg : (m.gain p.1).isSome with
  | true =>
   have h3 := Jq h hm0.1 hm0.2 hg
   exact ⟨by omega, fun _ => .inr (by omega)⟩
  | false =>
   rw [hg, Bool.or_false] at h2
   rw [GD hg] at h1 h2
   exact ⟨h1, h2⟩
theorem Kj {ms : List Mv} : ∀ (N : Nat) (best : Ab), CZ best → (∀ m ∈ ms, Fn m ∧ m.to_.toNat < best.length) → Cz Fk best < N → ∃ n out, Eh ms n best out
 | 0, _, _, _, h => absurd h (by omega)
 | N + 1, best, hb, hm, hN => by
  cases hp : (Fi ms best).2 with
  | false => exact ⟨0, (Fi ms best).1, by show Fi ms best = _; rw [← hp]⟩
  | true =>
   obtain ⟨_, h2⟩ := Gb (ms := ms) (p := (best, false)) hb hm
   rcases h2 hp with h | h
   ·cases h
   ·have hl : (Fi ms best).1.length = best.length := CR ms (best, false)
    obtain ⟨n, out, hn⟩ := Kj N (Fi ms best).1 (Cx hb fun m h => (hm m h).1) (fun m h => by rw [hl]; exact hm m h) (by
     have h : Cz Fk (Fi ms best).1 < Cz Fk best := h
     omega)
    exact ⟨n + 1, out, hp, hn⟩
theorem Gl {ms : List Mv} (hm : ∀ m ∈ ms, Fn m) : ∀ {n : Nat} {best out : Ab}, CZ best → Eh ms n best out → CZ out ∧ out.length = best.length
 | 0, best, out, hb, h => by
  have h : Fi ms best = (out, false) := h
  have h1 := Cx (ms := ms) (p := (best, false)) hb hm
  have h2 := CR ms (best, false)
  have e : (ms.foldl A8 (best, false)).1 = out := congrArg Prod.fst h
  rw [e] at h1 h2
  exact ⟨h1, h2⟩
 | n + 1, best, out, hb, h => by
  have h1 := Cx (ms := ms) (p := (best, false)) hb hm
  have h2 := CR ms (best, false)
  obtain ⟨q1, q2⟩ := Gl hm h1 h.2
  exact ⟨q1, q2.trans h2⟩
def Cq (a : Au) : Ab := List.replicate a.states.toNat none
theorem EU (a : Au) : CZ (Cq a) := fun t h => by
 have := List.eq_of_mem_replicate h
 cases this
theorem Ny {a : Au} (ha : a.may 8 40 = 0) : ∃ n out, Eh a.moves n (Cq a) out := by
 obtain ⟨_, h2, _⟩ := Au.may_ok.1 ha
 have ga := Au.may_good ha
 refine Kj _ (Cq a) (EU a) (fun m hm => ?_) (Nat.lt_succ_self _)
 have h := Mv.err_ok.1 (h2 m hm)
 have := ga.to_ m hm
 refine ⟨⟨h.1, h.2.1⟩, ?_⟩
 simp only [Cq, List.length_replicate]
 omega

theorem LD {ts : List ByteArray} : ∀ x ∈ ts.map Ds, x.length = 1 := by
 intro x hx
 obtain ⟨a, _, rfl⟩ := List.mem_map.1 hx
 rfl
theorem EP {α : Type} (f : Nat → α) (i : Nat) (a b : α) : AE (AE f i a) i b = AE f i b := by
 funext k
 unfold AE
 split <;> rfl
theorem HX {α : Type} (f : Nat → α) {i j : Nat} (h : ¬ i = j) (a b : α) : AE (AE f i a) j b = AE (AE f j b) i a := by
 funext k
 unfold AE
 split
 ·rename_i e
  subst e
  rw [if_neg (fun e => h e.symm)]
 ·rfl
theorem HG (t : Tm) (hz : t.size ≤ 1000000)
  (ih : ∀ a ∈ t.args, ∀ (i : Nat) (l : List ByteArray) (S : AA), 1000 ≤ i → l.length + a.size ≤ 3000000 → S i = some (.arow 9 1 (l.map Ds)) →
   Aj Try.prog 43 [aTm a, .one (.row i l.length)] S (.one (.row i (Ad l a.knots).length)) (AE S i (some (.arow 9 1 ((Ad l a.knots).map Ds)))))
  (C : Ctx) (hC : C.n = 34) (i : Nat) (hi : 20 < i) (l : List ByteArray) (hlz : l.length + t.size ≤ 3000000) (S : AA) (hS : Ah S) (env : Nat → AV) (e0 : env 0 = aTm t) (e1 : env 1 = .one (.row i l.length))
  (Q : AX → AS → Prop) (hQ : ∀ env', env' 4 = .one (.row i (Ad l t.knots).length) → Q .ret ⟨env', AE (AE S 2 (some (.box 28 [.st (.str t.name), .st (.list (t.args.map BY))]))) i (some (.arow 9 1 ((Ad l t.knots).map Ds)))⟩) :
  IWP Try.prog C [31] DJ Q ⟨env, AE S i (some (.arow 9 1 (l.map Ds)))⟩ := by
 have hs := Tm.size_eq t
 have hk := Tm.knots_eq t
 have hc2 := Bg hS (i := 2) (by omega)
 have hc6 := Bg hS (i := 6) (by omega)
 have hi2 : ¬ 2 = i := by omega
 have hi6 : ¬ 6 = i := by omega
 have hi2' : ¬ i = 2 := by omega
 have hi6' : ¬ i = 6 := by omega
 unfold DJ
 have hlk : ∀ k, (Ad (BC l t.name) (Tm.knotsL (t.args.take k))).length ≤ l.length + 1 + Tm.sizes (t.args.take k) := fun k => by
  have h1 := Dp (Tm.knotsL (t.args.take k)) (BC l t.name)
  have h2 := EC l t.name
  have h3 := Tm.knotsL_length (t.args.take k)
  omega
 repeat' with_reducible first | refine W ?_ | refine Z0 ?_ | ((first | refine Wo fun K hK => ?_ | refine Wq ?_ | refine Wr ?_); (try simp only [go_sem, fN, seval, eT, iR, e0, e1, hc2, hi2, hi6, hi2', hi6']); (repeat refine Ai ?_); (try (refine hK _ ?_; clear hK K)))
 refine ⟨_, CY _, ?_⟩
 rcases (show A3 t.name = false ∨ (A3 t.name = true ∧ FJ t.name l = true) ∨ (A3 t.name = true ∧ FJ t.name l = false) by cases A3 t.name <;> cases FJ t.name l <;> simp) with hv | ⟨hv, hin⟩ | ⟨hv, hin⟩
 case' inl =>
  have hl1 := LN (l := l) hv
  repeat' with_reducible first | refine W ?_ | refine Z0 ?_ | ((first | refine Wo fun K hK => ?_ | refine Wq ?_ | refine Wr ?_); (try simp only [go_sem, fN, seval, eT, iR, e0, e1, hv, hi2, hi2']); (repeat refine Ai ?_); (try (refine hK _ ?_; clear hK K)))
  with_reducible refine Wp ?_
  simp only [go_sem, fN, seval, true_implies, false_implies, implies_true, dT, dF, nL, hv]
  (try with_reducible refine iC ?_)
  repeat' with_reducible first | refine W ?_ | refine Z0 ?_ | ((first | refine Wo fun K hK => ?_ | refine Wq ?_ | refine Wr ?_); (try simp only [go_sem, fN, seval, eT, iR, e0, e1, hi2, hi2']); (repeat refine Ai ?_); (try (refine hK _ ?_; clear hK K)))
 case' inr.inl =>
  have hl1 := Ll (l := l) hin
  repeat' (first | (with_reducible first | refine W ?_ | refine Z0 ?_ | ((first | refine Wo fun K hK => ?_ | refine Wq ?_ | refine Wr ?_); (try simp only [go_sem, fN, seval, eT, iR, e0, e1, hv, hi2, hi2', hin]); (repeat refine Ai ?_); (try (refine hK _ ?_; clear hK K)))) | refine Cg _ (F9 _ _) ?_)
  with_reducible refine Wp ?_
  simp only [go_sem, fN, seval, true_implies, false_implies, implies_true, dT, dF, nL, hv]
  (try with_reducible refine iC ?_)
  repeat' with_reducible first | refine W ?_ | refine Z0 ?_ | ((first | refine Wo fun K hK => ?_ | refine Wq ?_ | refine Wr ?_); (try simp only [go_sem, fN, seval, eT, iR, e0, e1, hi2, hi2']); (repeat refine Ai ?_); (try (refine hK _ ?_; clear hK K)))
 case' inr.inr =>
  have hl1 := Jn (l := l) hv hin
  repeat' (first | (with_reducible first | refine W ?_ | refine Z0 ?_ | ((first | refine Wo fun K hK => ?_ | refine Wq ?_ | refine Wr ?_); (try simp only [go_sem, fN, seval, eT, iR, e0, e1, hv, hi2, hi2', hin]); (repeat refine Ai ?_); (try (refine hK _ ?_; clear hK K)))) | refine Cg _ (F9 _ _) ?_)
  with_reducible refine Wp ?_
  simp only [go_sem, fN, seval, true_implies, false_implies, implies_true, dT, dF, nL, hv]
  (try with_reducible refine iC ?_)
  repeat' with_reducible first | refine W ?_ | refine Z0 ?_ | ((first | refine Wo fun K hK => ?_ | refine Wq ?_ | refine Wr ?_); (try simp only [go_sem, fN, seval, eT, iR, e0, e1, hi2, hi2']); (repeat refine Ai ?_); (try (refine hK _ ?_; clear hK K)))
 all_goals
  refine IWP.loopD [6] (fun m s => ∃ k, k ≤ t.args.length ∧ m = t.args.length - k ∧ s.env 1 = .one (.row i (Ad (BC l t.name) (Tm.knotsL (t.args.take k))).length) ∧ s.env 23 = .one (.st (.list (t.args.map BY))) ∧ s.env 24 = AR t.args.length ∧ s.env 25 = AR k ∧ s.S = AE (AE S 2 (some (.box 28 [.st (.str t.name), .st (.list (t.args.map BY))]))) i (some (.arow 9 1 ((Ad (BC l t.name) (Tm.knotsL (t.args.take k))).map Ds)))) t.args.length ⟨0, Nat.zero_le _, rfl, ?_, rfl, rfl, rfl, ?_⟩ ?_
  ·show _ = AV.one (.row i (BC l t.name).length)
   rw [hl1]
   simp only [go_sem, fN, seval, eT, iR, e1]
  ·show _ = AE (AE S 2 _) i (some (.arow 9 1 ((BC l t.name).map Ds)))
   rw [hl1]
   first
    | (simp only [EP]; exact HX _ hi2' _ _)
    | (simp only [HX _ hi2', EP, List.map_append]; rfl)
  rintro m ⟨env', S'⟩ ⟨k, hk', rfl, e1', e23, e24, e25, hS'⟩
  simp only at e1' e23 e24 e25 hS'
  have s6 : S' 6 = none := by rw [hS', AG _ hi6, AG _ (by omega), hc6]
  have si : S' i = some (.arow 9 1 ((Ad (BC l t.name) (Tm.knotsL (t.args.take k))).map Ds)) := by rw [hS', AB]
  have hlk' := hlk k
  have z3 := Tm.length_le t.args
  by_cases hlt : (k : Int) < t.args.length
  ·obtain ⟨a, ha⟩ := BB (show k < t.args.length by omega)
   have z1 := Tm.sizes_take ha
   have z2 := Tm.sizes_take_le t.args (k + 1)
   repeat' with_reducible first | refine W ?_ | refine Z0 ?_ | ((first | refine Wo fun K hK => ?_ | refine Wq ?_ | refine Wr ?_); (try simp only [go_sem, fN, seval, eT, iR, e1', e23, e24, e25, s6, si, hlt]); (repeat refine Ai ?_); (try (refine hK _ ?_; clear hK K)))
   with_reducible refine Wp ?_
   simp only [go_sem, fN, seval, true_implies, false_implies, implies_true, dT, dF, nL, e1', e23, e24, e25, s6, si, hlt]
   (try with_reducible refine iC ?_)
   repeat' with_reducible first | refine W ?_ | refine Z0 ?_ | ((first | refine Wo fun K hK => ?_ | refine Wq ?_ | refine Wr ?_); (try simp only [go_sem, fN, seval, eT, iR, e1', e23, e24, e25, s6, si, ha]); (repeat refine Ai ?_); (try (refine hK _ ?_; clear hK K)))
   have hni : ([6] : List Nat).contains i = false := by simp; omega
   refine ⟨_, _, ih a (AW ha) (up1 i) _ _ (BT i) (by omega) (by rw [Ca, AG _ hi6', AG _ hi6', si]; rfl), ?_⟩
   repeat' with_reducible first | refine W ?_ | refine Z0 ?_ | ((first | refine Wo fun K hK => ?_ | refine Wq ?_ | refine Wr ?_); (try simp only [go_sem, fN, seval, eT, iR, e23, e24, e25]); (repeat refine Ai ?_); (try (refine hK _ ?_; clear hK K)))
   refine AK ⟨t.args.length - (k + 1), by omega, k + 1, by omega, rfl, ?_⟩
   have hib : (i == 6) = false := by simp; omega
   simp only [go_sem, fN, seval, AS.drop, AC.clears, AC.clear, AC.highs, AC.high, Bool.not_false, Bool.true_and, Bool.and_self, AV.purge, AV.purges, AC.purge, AI.purge, List.contains_cons, List.contains_nil, Nat.reduceBEq, Bool.or_self, Bool.or_false, Bool.false_or, Bool.or_true, eT, iR, e23, e24, hib]
   rw [Tm.knotsL_take ha, GT]
   refine ⟨rfl, by congr 3, ?_⟩
   rw [FC hni, Iu rfl, Iu rfl, hS', FC hni, FC rfl, I1 (by decide) hS, EP]
   rfl
  ·repeat' with_reducible first | refine W ?_ | refine Z0 ?_ | ((first | refine Wo fun K hK => ?_ | refine Wq ?_ | refine Wr ?_); (try simp only [go_sem, fN, seval, eT, iR, e1', e23, e24, e25, hlt]); (repeat refine Ai ?_); (try (refine hK _ ?_; clear hK K)))
   with_reducible refine Wp ?_
   simp only [go_sem, fN, seval, true_implies, false_implies, implies_true, dT, dF, nL, e1', e23, e24, e25, hlt]
   (try with_reducible refine iC ?_)
   repeat' with_reducible first | refine W ?_ | refine Z0 ?_ | ((first | refine Wo fun K hK => ?_ | refine Wq ?_ | refine Wr ?_); (try simp only [go_sem, fN, seval, eT, iR, e1']); (repeat refine Ai ?_); (try (refine hK _ ?_; clear hK K)))
   rw [hS']
   have hfin : Ad (BC l t.name) (Tm.knotsL (t.args.take k)) = Ad l t.knots := by rw [List.take_of_length_le (by omega), hk]; rfl
   rw [hfin]
   refine hQ _ ?_
   simp only [go_sem, fN, seval, eT, iR]
theorem Ln {α : Type} {f : Nat → α} {i : Nat} {a : α} (h : f i = a) : AE f i a = f := by
 funext k
 unfold AE
 split
 ·rename_i e
  rw [e, h]
 ·rfl
theorem Mn (t : Tm) (hz : t.size ≤ 1000000) : ∀ (i : Nat) (l : List ByteArray) (S : AA), 1000 ≤ i → l.length + t.size ≤ 3000000 → S i = some (.arow 9 1 (l.map Ds)) →
   Aj Try.prog 43 [aTm t, .one (.row i l.length)] S (.one (.row i (Ad l t.knots).length)) (AE S i (some (.arow 9 1 ((Ad l t.knots).map Ds)))) := by
 induction h : SizeOf.sizeOf t using Nat.strongRecOn generalizing t with
 | _ N ih =>
 subst h
 have hs := Tm.size_eq t
 intro i l S hi hl hSi
 refine Ea.acS fun hS C hC => ?_
 have hcore := HG t hz (fun a ha => ih _ (Tm.lt_of_arg ha) a (by have := Tm.size_mem ha; omega) rfl) C hC i (by omega) l hl S hS (fun j => ([aTm t, .one (.row i l.length)][j]?).getD (.tup [])) rfl rfl
  (E8 C [.t 4] (.one (.row i (Ad l t.knots).length)) (AE S i (some (.arow 9 1 ((Ad l t.knots).map Ds))))) ?_
 ·rw [Ln hSi] at hcore
  exact hcore
 ·intro env' e4
  have hc' : Ah (AE S i (some (.arow 9 1 ((Ad l t.knots).map Ds)))) := B8 hS hi rfl
  refine Ka trivial ⟨_, AZ.low (Ms (FD (by omega) fun k c _ hk => (hS k c hk).2) rfl), ?_, ?_, hc'⟩
  ·simp only [AH, AM, AY, e4, AV.low, AV.high, AC.high, hi, decide_true, if_true, Option.map_some]
  ·show Bp _ = _
   rw [Lb _ hi, GL _ (by omega), GN hS]
theorem MJ (t : Tm) (hz : t.size ≤ 1000000) (a0 : Nat) (S : AA) (ha : 1000 ≤ a0) (hSa : S a0 = none) :
   Aj Try.prog 43 [aTm t, .one (.full [])] S (.one (.row a0 (Ad [] t.knots).length)) (AE S a0 (some (.arow 9 1 ((Ad [] t.knots).map Ds)))) := by
 have hs := Tm.size_eq t
 refine Ea.acS fun hS C hC => ?_
 refine IWP.ghost (AZ.own 1 21 9 1 (xs := ([] : List ByteArray).map Ds) rfl (Bg hS (by omega)) LD (by omega)) ?_
 refine HG t hz (fun a ha => Mn a (by have := Tm.size_mem ha; omega)) C hC 21 (by omega) [] (by simp; omega) S hS _ rfl rfl _ ?_
 intro env' e4
 have hb : ∀ i b, 1000 ≤ i → AE (AE S 2 (some (.box 28 [.st (.str t.name), .st (.list (t.args.map BY))]))) 21 (some (.arow 9 1 ((Ad [] t.knots).map Ds))) i = some b → b.high = true := FD (by omega) (FD (by omega) fun k c _ hk => (hS k c hk).2)
 refine Ka trivial ⟨_, AZ.hand 21 a0 (b0 := .arow 9 1 ((Ad [] t.knots).map Ds)) (by omega) ha (by show AE _ _ _ _ = _; rw [AG _ (by omega), AG _ (by omega), hSa]) (by simp only [AB]) rfl hb, ?_, ?_, B8 hS ha rfl⟩
 ·simp only [AH, AM, AY, e4, AV.hand, AV.ren, AC.ren, A6, if_true, AV.high, AC.high, ha, decide_true, Option.map_some]
 ·show AE (Bp _) _ _ = _
  rw [GL _ (by omega), GL _ (by omega), GN hS]
theorem KI (t : Tm) (hz : t.size ≤ 1000000) : Ac Try.prog 29 [aTm t] (Iq t.varsOf) := by
 refine IB.ac fun C hC => ?_
 unfold EY
 repeat' with_reducible first | refine W ?_ | refine Z0 ?_ | ((first | refine Wo fun K hK => ?_ | refine Wq ?_ | refine Wr ?_); (try simp only [go_sem, fN, seval, eT, iR]); (repeat refine Ai ?_); (try (refine hK _ ?_; clear hK K)))
 refine ⟨_, _, MJ t hz (up1 10) _ (BT 10) (by rw [Ca]; rfl), ?_⟩
 repeat' with_reducible first | refine W ?_ | refine Z0 ?_ | ((first | refine Wo fun K hK => ?_ | refine Wq ?_ | refine Wr ?_); (try simp only [go_sem, fN, seval, eT, iR]); (repeat refine Ai ?_); (try (refine hK _ ?_; clear hK K)))
 simp only [go_sem, fN, seval, Af, AS.result, AH, AM, AY]
 rfl
theorem Oh (t : Tm) (hz : t.size ≤ 1000000) : Ac Try.prog 34 [aTm t] (aTm t) := by
 induction h : SizeOf.sizeOf t using Nat.strongRecOn generalizing t with
 | _ N ih =>
 subst h
 have hs := Tm.size_eq t
 have hkn := Tm.length_le t.args
 refine IF.ac fun C hC => ?_
 unfold Es
 repeat' with_reducible first | refine W ?_ | refine Z0 ?_ | ((first | refine Wo fun K hK => ?_ | refine Wq ?_ | refine Wr ?_); (try simp only [go_sem, fN, seval, eT, iR]); (repeat refine Ai ?_); (try (refine hK _ ?_; clear hK K)))
 refine IWP.ghost (AZ.ownC 3 1 21 28 2 (xs := ([] : List Tm).map BY) rfl rfl rfl K3) ?_
 refine IWP.loopD [5] (fun m s => ∃ k, k ≤ t.args.length ∧ m = t.args.length - k ∧ s.env 2 = .one (.ptr 2 1 0 0) ∧ s.env 3 = .one (.ptr 3 1 0 0) ∧ s.S 2 = some (.box 28 [.st (.str ⟨#[]⟩), .full []]) ∧ s.S 3 = some (.box 28 [.st (.str t.name), .row 21 k]) ∧ s.S 21 = some (.arow 28 2 ((t.args.take k).map BY)) ∧ s.env 10 = .one (.st (.list (t.args.map BY))) ∧ s.env 11 = AR t.args.length ∧ s.env 12 = AR k ∧ s.S 5 = none)
  t.args.length ⟨0, Nat.zero_le _, rfl, rfl, rfl, rfl, rfl, rfl, rfl, rfl, rfl, rfl⟩ ?_
 rintro m ⟨env, S⟩ ⟨k, hk, rfl, e2, e3, s2, s3, s21, e10, e11, e12, s5⟩
 simp only at e2 e3 s2 s3 s21 e10 e11 e12 s5
 have hlk : (t.args.take k).length = k := by rw [List.length_take]; omega
 by_cases hlt : (k : Int) < t.args.length
 ·obtain ⟨a, ha⟩ := BB (show k < t.args.length by omega)
  repeat' with_reducible first | refine W ?_ | refine Z0 ?_ | ((first | refine Wo fun K hK => ?_ | refine Wq ?_ | refine Wr ?_); (try simp only [go_sem, fN, seval, eT, iR, e2, e3, s2, s3, s21, e10, e11, e12, s5, hlt]); (repeat refine Ai ?_); (try (refine hK _ ?_; clear hK K)))
  with_reducible refine Wp ?_
  simp only [go_sem, fN, seval, true_implies, false_implies, implies_true, dT, dF, nL, e10, e11, e12, hlt]
  (try with_reducible refine iC ?_)
  repeat' (first | (with_reducible first | refine W ?_ | refine Z0 ?_ | ((first | refine Wo fun K hK => ?_ | refine Wq ?_ | refine Wr ?_); (try simp only [go_sem, fN, seval, eT, iR, e2, e3, s2, s3, s21, e10, e11, e12, s5, ha, hlk]); (repeat refine Ai ?_); (try (refine hK _ ?_; clear hK K)))) | refine Cg _ (ih _ (Tm.lt_of_arg (AW ha)) a (by have := Tm.size_mem (AW ha); omega) rfl) ?_)
  refine AK ⟨t.args.length - (k + 1), by omega, k + 1, by omega, rfl, ?_⟩
  simp only [go_sem, fN, seval, AS.drop, Ao, AC.clears, AC.clear, AC.highs, AC.high, Bool.not_false, Bool.true_and, Bool.and_self, AV.purge, AV.purges, AC.purge, AI.purge, List.contains_cons, List.contains_nil, Nat.reduceBEq, Bool.or_self, Bool.or_false, Bool.false_or, Bool.or_true, eT, iR, e2, e3, s2, s3, s21, e10, e11, e12, s5]
  exact ⟨by rw [A2 ha]; simp [CM], by congr 3⟩
 ·repeat' with_reducible first | refine W ?_ | refine Z0 ?_ | ((first | refine Wo fun K hK => ?_ | refine Wq ?_ | refine Wr ?_); (try simp only [go_sem, fN, seval, eT, iR, e2, e3, s2, s3, s21, e10, e11, e12, s5, hlt]); (repeat refine Ai ?_); (try (refine hK _ ?_; clear hK K)))
  with_reducible refine Wp ?_
  simp only [go_sem, fN, seval, true_implies, false_implies, implies_true, dT, dF, nL, e10, e11, e12, hlt]
  (try with_reducible refine iC ?_)
  repeat' with_reducible first | refine W ?_ | refine Z0 ?_ | ((first | refine Wo fun K hK => ?_ | refine Wq ?_ | refine Wr ?_); (try simp only [go_sem, fN, seval, eT, iR, e2, e3, s2, s3, s21, e10, e11, e12, s5]); (repeat refine Ai ?_); (try (refine hK _ ?_; clear hK K)))
  have hall : t.args.take k = t.args := List.take_of_length_le (by omega)
  rw [hall] at hlk s21
  simp only [go_sem, fN, seval, Af, AS.result, AH, AM, AY, e2, s2, s21, hlk]

section
variable {P : Program} {C : Ctx} {a : Act} {w : World} {σ : Sto} {ι : Ae} {s : AS} {Q : Exit → Act → World → Prop} {o : Oper}
end
section
variable {P : Program} {C : Ctx} {mu : List Nat} {Q : AX → AS → Prop} {s : AS}
end


theorem Ml : sep 0 = ⟨#[40]⟩ := rfl
theorem Mf {k : Nat} (h : k ≠ 0) : sep k = ⟨#[44]⟩ := if_neg h
theorem Tm.text_lt {t x : Tm} (h : x ∈ t.args) : x.text.size ≤ t.text.size := by
 obtain ⟨k, hk⟩ := List.getElem?_of_mem h
 have h1 := t.ahead_le (k + 1)
 rw [Tm.ahead_succ hk, ByteArray.size_append] at h1
 omega
theorem Tm.textsFrom_ge : ∀ (k : Nat) (xs : List Tm), xs.length ≤ (Tm.textsFrom k xs).size
 | _, [] => Nat.zero_le _
 | k, t :: ts => by
  have := Tm.textsFrom_ge (k + 1) ts
  simp only [Tm.textsFrom, ByteArray.size_append, GR, List.length_cons]
  omega
theorem Tm.args_text (t : Tm) : t.args.length ≤ t.text.size := by
 have := Tm.textsFrom_ge 0 t.args
 rw [Tm.text_eq, ByteArray.size_append, ByteArray.size_append]
 omega

theorem MU {ds : List Nat} (hds : ∀ d ∈ ds, d < 1000) {x : Option AI} (hb : ∀ b, x = some b → b.high = true) : x.map (AI.purge ds) = x := by
 cases h : x with
 | none => rfl
 | some b => rw [Option.map_some, AI.purge_high hds (hb b h)]
theorem F_ {C : Ctx} {rs : List RV} {r : AV} {e : AX} {s : AS} {S : AA} {a0 b0 : Nat} {b c : AI} (r0 : AV) (hS : Ah S) (ha : 1000 ≤ a0) (hb0 : 1000 ≤ b0) (hne : b0 ≠ a0) (hb : b.high = true) (hc : c.high = true) (he : match e with | .normal => True | .ret => True | _ => False)
  (h1 : (AH s rs).map AY = some r0) (h2 : outV s.S r0 = some r) (h3 : s.S a0 = some b) (h3' : s.S b0 = some c) (h4 : ∀ i, 1000 ≤ i → i ≠ a0 → i ≠ b0 → s.S i = S i) : E8 C rs r (AE (AE S a0 (some b)) b0 (some c)) e s :=
 JE he r0 h1 h2 (fun i x hi hx => by
  by_cases e1 : i = a0
  ·subst e1; rw [h3] at hx; cases hx; exact hb
  ·by_cases e2 : i = b0
   ·subst e2; rw [h3'] at hx; cases hx; exact hc
   ·rw [h4 i hi e1 e2] at hx; exact (hS i x hx).2) (by
  funext i
  show (if i < 1000 then none else s.S i) = _
  by_cases e2 : i = b0
  ·subst e2
   rw [AB, if_neg (by omega), h3']
  ·rw [AG _ e2]
   by_cases e1 : i = a0
   ·subst e1
    rw [AB, if_neg (by omega), h3]
   ·rw [AG _ e1]
    by_cases hi : i < 1000
    ·rw [if_pos hi, Bg hS hi]
    ·rw [if_neg hi, h4 i (by omega) e1 e2]) (B8 (B8 hS ha hb) hb0 hc)

theorem Ez {P : Program} {f : FuncId} {xs : List AV} {S : AA} {r : AV} {S' : AA} (hS' : Ah S → Ah S')
  (h : Ah S → ∀ (C : Ctx) (σ : Sto) (ι : Ae) (vs : List Value) (w : World), C.n = xs.length → AJ C σ ι (AS.startS xs S) { tmps := vs.toArray, defers := [] } w → AP (AL σ S ι) vs xs → Calls P f vs.toArray w fun e w' => ∃ v σ' ι' env', e = .returned v ∧ AJ C σ' ι' ⟨env', S'⟩ { tmps := vs.toArray, defers := [] } w' ∧ AL σ' S' ι' v r) : Aj P f xs S r S' := by
 intro hclean σ w vs ι hglob hfit hown hvs
 have hl := hvs.len
 let C : Ctx := ⟨xs.length, w.heap.size, fun g => ¬ Bm S ι g, σ, w, S, ι, hclean, hglob, [], none, false⟩
 have R : AJ C σ ι (AS.startS xs S) { tmps := vs.toArray, defers := [] } w := by
  refine ⟨by simp [C, hl], fun i hi => ?_, D3, hfit, hown.1, hown.2, fun id b g h hg => .inr (fun hno => hno id b h hg), fun _ _ h => h, fun _ _ _ => rfl, ⟨rfl, rfl, rfl⟩, ⟨Nat.le_refl _, Nat.le_refl _⟩, fun _ _ _ => rfl, Upd.refl _ _⟩
  show AL σ S ι _ ((xs[i]?).getD (.tup []))
  have hi : i < xs.length := hi
  have hi2 : i < vs.length := by omega
  obtain ⟨b, hb1, hb2⟩ := hvs.get' (List.getElem?_eq_getElem hi2)
  rw [Array.getD_eq_getD_getElem?, hb1]
  simpa [hi2] using hb2
 refine (h hclean C σ ι vs w rfl R hvs).mono fun e w' ⟨v, σ', ι', env', he, R', hv⟩ => ?_
 exact ⟨v, σ', ι', he, hS' hclean, R'.upd, ⟨R'.blk, R'.inj⟩, hv, R'.fit, R'.ext, fun p h1 h2 => R'.old p h1 (fun h => h h2), R'.os, R'.grown.2, fun g h1 h2 => R'.same g h1 (fun h => h h2), fun id b g h1 h2 => R'.base id b g h1 h2⟩
theorem AZ.ownCell {C : Ctx} {s : AS} {id r : Nat} {e e' : TypeId} {cs : List AC} (j wd : Nat) (hS : s.S id = some (.box e cs)) (hj : cs[j]? = some (.full [])) (hr : s.S r = none) (hne : id ≠ r) :
  AZ C s ((s.set r (.mrow e' wd [])).set id (.box e (cs.set j (.row r 0)))) := fun a w ⟨σ, ι, R⟩ => by
 have hb := R.blk _ _ hS
 cases hb with
 | @box _ _ g vs k1 k2 k3 k4 k5 =>
  obtain ⟨v, hv, hvr⟩ := k4.get hj
  cases hvr with
  | @full p len xs hs =>
   have hl : len = 0 := by
    obtain ⟨p', cap', e1, _⟩ := Bf hs
    cases e1
    rfl
   subst hl
   obtain ⟨hu, R'⟩ := R.fresh (w' := w) hr (.mrow e' wd []) ⟨p, 0, none⟩ (Ext.refl _ _) R.fit (Below.refl _ _) (by simp) (fun S' ι' hu => .mnil rfl rfl)
   have hS' : (s.set r (.mrow e' wd [])).S id = some (.box e cs) := by simp [AS.set, AG _ hne, hS]
   have hι : AE ι r ⟨p, 0, none⟩ id = ι id := AG _ hne _
   have hrr : (s.set r (.mrow e' wd [])).S r = some (.mrow e' wd []) := by simp [AS.set, AB]
   obtain ⟨hu2, R2⟩ := R'.turn (w' := w) hS' (.box e (cs.set j (.row r 0))) (AE ι r ⟨p, 0, none⟩ id) (σ' := σ) (fun _ _ h => h) (fun _ _ _ => rfl) R.fit (by simp [AI.len]) (fun _ => ⟨rfl, rfl⟩) ⟨rfl, rfl, rfl⟩ (Nat.le_refl _) (fun _ _ _ => rfl) (fun g h => .inl h)
    (fun hu2 => by
     rw [hι] at hu2 ⊢
     refine .box k1 k2 k3 (AP.of_get (by rw [List.length_set]; exact k4.len) fun q u c hu3 hc => ?_) k5
     by_cases e2 : q = j
     ·subst e2
      rw [hv] at hu3
      cases hu3
      rw [List.getElem?_set_self (List.getElem?_eq_some_iff.1 hj).1] at hc
      cases hc
      refine .row (b := .mrow e' wd []) (by simp [AS.set, AE, Ne.symm hne]) (Nat.le_refl _) rfl fun _ => ?_
      simp [AE, Ne.symm hne]
     ·rw [List.getElem?_set_ne (fun e => e2 e.symm)] at hc
      obtain ⟨u', hu', hr'⟩ := k4.get hc
      rw [hu3] at hu'
      cases hu'
      exact (hr'.mono (fun _ _ h => h) hu).mono (fun _ _ h => h) hu2)
   exact ⟨σ, _, R2⟩

def BF : IR :=
 (.seq (.ops [.i 4 (.mov (.n 0)), .i 5 (.mov (.c (.one (.st (.lit .nilIface)))))]) (.seq (.ops [.m 6 0, .i 7 (.callS 59 [.t 6])]) (.seq (.ops [.m 8 0, .m 9 0, .i 10 (.nilCheck (.t 9)), .f 11 1 10, .l 12 11, .m 13 1, .i 14 (.appS 5 (.t 12) (.t 13)), .i 15 (.nilCheck (.t 8)), .f 16 1 15, .s 1 16 14]) (.seq (.ops [.m 17 1, .i 18 (.len true (.t 17)), .m 4 18, .i 5 (.mov (.c (.one (.st (.lit .nilIface)))))]) .ret))))
theorem B7 : OkF Try.prog 57 19 [7] BF [.t 4, .t 5] := .of Try.func57 rfl rfl (by kernel_rfl) rfl
def BM : IR :=
 (.seq (.ops [.i 4 (.mov (.c (.one (.st (.lit .nilIface)))))]) (.seq (.ops [.m 5 0, .i 6 (.callS 59 [.t 5])]) (.seq (.ops [.m 7 0, .m 8 0, .i 9 (.nilCheck (.t 8)), .f 10 1 9, .l 11 10, .m 12 1, .i 13 (.buildFlat [.t 12]), .i 14 (.append true 5 1 1 (.t 11) (.t 13)), .i 15 (.nilCheck (.t 7)), .f 16 1 15, .s 1 16 14]) (.seq (.ops [.i 4 (.mov (.c (.one (.st (.lit .nilIface)))))]) .ret))))
theorem CI : OkF Try.prog 58 17 [6, 14] BM [.t 4] := .of Try.func58 rfl rfl (by kernel_rfl) rfl

theorem Ej : (Try.prog.info? 83).map (fun i => i.size) = some 2 := by kernel_rfl
set_option maxRecDepth 100000 in
theorem Fq (b : Nat) (w : World) (h0 : w.cell? ⟨b, 0, none⟩ = some (.pointer (some ⟨b, 0, none⟩))) :
  Calls Try.prog 59 #[.pointer (some ⟨b, 0, none⟩)] w fun e w' => e = .returned (.tuple #[]) ∧ w' = w := by
 obtain ⟨j, hj, _⟩ := Option.map_eq_some_iff.1 Ej
 go_enter Try.func59, Try.ntmps59
 go_wp2
 rw [Lib.run_neq_ptr_same w _ Try.underlying80 hj]
 go_wp2
 go_end0
 exact ⟨rfl, rfl⟩
set_option maxRecDepth 100000 in
theorem E1 (b : Nat) (w : World) (h0 : w.cell? ⟨b, 0, none⟩ = some (.pointer none)) (hsh : w.shape? b = some (83, 2)) (hfz : w.frozen? ⟨b, 0, none⟩ = false) :
  Calls Try.prog 59 #[.pointer (some ⟨b, 0, none⟩)] w fun e w' => e = .returned (.tuple #[]) ∧ w' = w.setCell ⟨b, 0, none⟩ (.pointer (some ⟨b, 0, none⟩)) := by
 obtain ⟨j, hj, hjs⟩ := Option.map_eq_some_iff.1 Ej
 go_enter Try.func59, Try.ntmps59
 go_wp2
 rw [Lib.run_to_unsafe w ⟨b, 0, none⟩ Try.underlying80 Try.underlying94 hj (by rw [hjs]; decide) hsh (Nat.zero_lt_succ 1)]
 simp only [Result.andThen]
 rw [Oper.upon_value]
 go_wp2
 rw [run_callFunc_extern Try.func60 (by kernel_rfl) (by kernel_rfl) (by kernel_rfl) (e := Extern.AbiNoEscape.same) (by kernel_rfl)]
 rw [Lib.run_noEscape]
 simp only [Result.andThen]
 rw [Oper.upon_value]
 go_wp2
 rw [Lib.run_from_unsafe w ⟨b, 0, none⟩ Try.underlying94 Try.underlying80 hj hsh (by kernel_rfl)]
 simp only [Result.andThen]
 rw [Oper.upon_value]
 go_wp2
 go_end0
 exact ⟨rfl, rfl⟩
def Frz (w w' : World) (g : Nat) : Prop := w'.heap.size = w.heap.size ∧ (∀ k, k ≠ g → w'.heap[k]? = w.heap[k]?) ∧ w'.os = w.os ∧ w'.tape = w.tape ∧ w'.output = w.output ∧ ∀ cs e f, w.heap[g]? = some (.cells cs e f) → ∃ f', w'.heap[g]? = some (.cells cs e f')
theorem KF (w : World) (g n : Nat) : Frz w (w.drew.freeze ⟨g, 0, none⟩ n) g := by
 unfold World.freeze
 split
 ·exact ⟨rfl, fun _ _ => rfl, rfl, rfl, rfl, fun cs e f h => ⟨f, h⟩⟩
 ·refine ⟨by simp, fun k hk => ?_, rfl, rfl, rfl, fun cs e f h => ?_⟩
  ·simp only [Array.getElem?_modify]
   rw [if_neg (fun e => hk e.symm)]
   rfl
  ·obtain ⟨lo, hi⟩ := f
   have h' : w.drew.heap[g]? = some (.cells cs e (lo, hi)) := h
   refine ⟨if lo == hi then (0, 0 + n) else (min lo 0, max hi (0 + n)), ?_⟩
   simp only [Array.getElem?_modify, if_true, h', Option.map_some]
set_option maxRecDepth 100000 in
theorem E7 (b g cap : Nat) (p : Value) (cur : Array Value) (l : List UInt8) (w : World) (h0 : l ≠ []) (hbk : w.heap[b]? = some (.cells #[p, .slice (some ⟨g, 0, none⟩) l.length cap] 83 (0, 0))) (hbg : w.heap[g]? = some (.cells cur 5 (0, 0)))
  (hcm : cap ≤ maxLen) (hnc : l.length ≤ cap) (hsz : l.length ≤ cur.size) (hcur : ∀ (j : Nat) (x : UInt8), l[j]? = some x → cur[j]? = some (Value.int .u8 (x.toNat : Int))) :
  Calls Try.prog 53 #[.pointer (some ⟨b, 0, none⟩)] w fun e w' => e = .returned (.string ⟨l.toArray⟩) ∧ Frz w w' g := by
 have hl0 : l.length ≠ 0 := by simpa using h0
 have c1 : w.drew.cell? ⟨b, 1, none⟩ = some (.slice (some ⟨g, 0, none⟩) l.length cap) := by
  have : w.drew.heap[b]? = some (.cells #[p, .slice (some ⟨g, 0, none⟩) l.length cap] 83 (0, 0)) := hbk
  rw [Lib.cell_of_heap this]; rfl
 have hSD : (Builtin.unsafeSliceData_ #[81] 93 #[.slice (some ⟨g, 0, none⟩) l.length cap]).run Try.prog w.drew = .ok (.pointer (some ⟨g, 0, none⟩)) w.drew :=
  Lib.run_unsafeSliceData_row _ _ _ _ _ _ (by omega)
 have hUS : (Builtin.unsafeString_ #[93, 3] 9 #[.pointer (some ⟨g, 0, none⟩), .int .i64 l.length]).run Try.prog w.drew = .ok (.string ⟨l.toArray⟩) (w.drew.freeze ⟨g, 0, none⟩ l.length) := by
  refine Lib.run_unsafeString_row w.drew 93 3 9 5 Try.underlying93 (by kernel_rfl) g cur.size (by have hg' : w.drew.heap[g]? = some (.cells cur 5 (0, 0)) := hbg; simp [World.shape?, hg']) l h0 (by omega) (by unfold maxLen at hcm; omega) ?_
  intro j x hx
  have hg' : w.drew.heap[g]? = some (.cells cur 5 (0, 0)) := hbg
  rw [A0, Nat.zero_add, cell_of_row w.drew g _ _ _ _ hg']
  exact hcur j x hx
 go_enter Try.func53, Try.ntmps53
 go_wp2
 have mixed : Try.prog.follows Departure.mixedOrders = true := by kernel_rfl
 go_region_o
 all_goals (go_wp2; go_ret; exact ⟨rfl, KF w g l.length⟩)
abbrev bT : TypeId := 83
abbrev u8T : TypeId := 5
structure Bld (S : AA) (a0 r : Nat) (bs : ByteArray) : Prop where
 ha : 1000 ≤ a0
 hr : 1000 ≤ r
 ne : a0 ≠ r
 box : ∃ p, (p = .st (.lit (.pointer none)) ∨ p = .ptr a0 1 0 0) ∧ S a0 = some (.box bT [p, .row r bs.size])
 row : S r = some (.mrow u8T 1 (AU bs))
def Eb (S : AA) (a0 r : Nat) (bs : ByteArray) : AA := AE (AE S a0 (some (.box bT [.ptr a0 1 0 0, .row r bs.size]))) r (some (.mrow u8T 1 (AU bs)))
theorem Bld.next {S : AA} {a0 r : Nat} {bs cs : ByteArray} (h : Bld S a0 r bs) : Bld (Eb S a0 r cs) a0 r cs :=
 ⟨h.ha, h.hr, h.ne, ⟨_, .inr rfl, by unfold Eb; rw [AG _ h.ne, AB]⟩, by unfold Eb; rw [AB]⟩
theorem IJ {σ : Sto} {S : AA} {ι : Ae} {v : Value} {a0 : Nat} {e : TypeId} {cs : List AC} (h : AL σ S ι v (.one (.ptr a0 1 0 0))) (hS : S a0 = some (.box e cs)) : ∃ g, (ι a0).g = some g ∧ v = .pointer (some ⟨g, 0, none⟩) := by
 have h := AO h
 cases h with
 | @ptr _ _ _ _ _ b h1 h2 h3 h4 =>
  rw [hS] at h1
  cases h1
  obtain ⟨g, g1, g2⟩ := h4 rfl
  exact ⟨g, g1, by rw [g2]; rfl⟩
theorem Mw {σ : Sto} {S : AA} {ι : Ae} {v : Value} {a0 : Nat} {e : TypeId} {cs : List AC} (h : AT σ S ι v (.ptr a0 1 0 0)) (hS : S a0 = some (.box e cs)) : ∃ g, (ι a0).g = some g ∧ v = .pointer (some ⟨g, 0, none⟩) := IJ (.one h) hS
theorem Iw {α : Type} {l : List α} (h : l.length = 2) : ∃ a b, l = [a, b] := by
 match l, h with
 | [a, b], _ => exact ⟨a, b, rfl⟩
theorem FW {a0 r : Nat} {bs : ByteArray} {S : AA} (h : Bld S a0 r bs) : Aj Try.prog 59 [.one (.ptr a0 1 0 0)] S (.tup []) (AE S a0 (some (.box bT [.ptr a0 1 0 0, .row r bs.size]))) := by
 obtain ⟨p, hp, hSa⟩ := h.box
 refine Ez (fun hc => B8 hc h.ha (by simp only [AI.high, AC.highs, AC.high, decide_eq_true h.ha, decide_eq_true h.hr, Bool.and_self])) fun hclean C σ ι vs w hn R hvs => ?_
 obtain ⟨v, rfl⟩ : ∃ v, vs = [v] := by
  have := hvs.len
  match vs, this with
  | [v], _ => exact ⟨v, rfl⟩
 have hv : AL σ S ι v (.one (.ptr a0 1 0 0)) := by cases hvs with | cons h _ => exact h
 obtain ⟨g, hg, rfl⟩ := IJ hv hSa
 have hb := R.blk a0 _ hSa
 cases hb with
 | @box _ _ g' vs k1 k2 k3 k4 k5 =>
 rw [hg] at k1
 cases k1
 obtain ⟨v0, v1, hvs2⟩ := Iw (show vs.toList.length = 2 by rw [k4.len]; rfl)
 obtain rfl : vs = #[v0, v1] := Array.ext' hvs2
 have r0 : AT σ S ι v0 p := by cases k4 with | cons h _ => exact h
 have r1 : AT σ S ι v1 (.row r bs.size) := by cases k4 with | cons _ h => cases h with | cons h _ => exact h
 have c0 : w.cell? ⟨g, 0, none⟩ = some v0 := by rw [Lib.cell_of_heap k3]; rfl
 have key : ∀ w', w' = w.setRow g #[.pointer (some ⟨g, 0, none⟩), v1] → ∃ σ' ι' env', AJ C σ' ι' ⟨env', AE S a0 (some (.box bT [.ptr a0 1 0 0, .row r bs.size]))⟩ { tmps := #[.pointer (some ⟨g, 0, none⟩)], defers := [] } w' ∧ AL σ' (AE S a0 (some (.box bT [.ptr a0 1 0 0, .row r bs.size]))) ι' (.tuple #[]) (.tup []) := fun w' hw' => by
  subst hw'
  obtain ⟨hu, R'⟩ := R.turn (w' := w.setRow g #[.pointer (some ⟨g, 0, none⟩), v1]) hSa (.box bT [.ptr a0 1 0 0, .row r bs.size]) (ι a0) (σ' := σ) (fun _ _ h => h) (fun _ _ _ => rfl) (R.fit.row k5 fun k hk => setRow_other _ _ _ _ hk) (by simp [AI.len]) (fun _ => ⟨rfl, rfl⟩) (A4 _ _) (by simp)
   (fun k hk hne => setRow_other _ _ _ _ (fun e => hne (by rw [e]; exact hg))) (fun g h => .inl h) (fun hu => .box hg k2 (setRow_heap w _ _ _ _ _ k3) (.cons (.ptr (b := .box bT [.ptr a0 1 0 0, .row r bs.size]) (by simp [AS.set, AB]) (by simp [AI.len]) rfl fun _ => ⟨g, by rw [AB]; exact hg, by simp [AI.wid]⟩) (.cons (r1.mono (fun _ _ h => h) hu) .nil)) k5)
  exact ⟨σ, _, _, R', .tup (fun _ => undef) rfl (by simp) (by simp)⟩
 rcases hp with rfl | rfl
 ·have e0 : v0 = .pointer none := by cases r0 with | st h => cases h with | lit _ => rfl
  subst e0
  refine (E1 g w c0 (by simp [World.shape?, k3]) (Lib.frozen_of_heap k3 0)).mono ?_
  rintro e w' ⟨rfl, rfl⟩
  obtain ⟨σ', ι', env', R', hv'⟩ := key _ (setCell_eq_setRow w g 0 _ _ _ _ k3)
  exact ⟨_, σ', ι', env', rfl, R', hv'⟩
 ·obtain ⟨g2, hg2, e0⟩ := Mw r0 hSa
  rw [hg] at hg2
  cases hg2
  subst e0
  refine (Fq g w c0).mono ?_
  rintro e w' ⟨rfl, rfl⟩
  obtain ⟨σ', ι', env', R', hv'⟩ := key _ (setRow_self w' g _ _ _ k3).symm
  exact ⟨_, σ', ι', env', rfl, R', hv'⟩
theorem FX (a b : ByteArray) : AU (a ++ b) = AU a ++ AU b := by unfold AU; simp
theorem H5 {a0 r : Nat} {bs : ByteArray} {S : AA} (h : Bld S a0 r bs) : Bld (upS S) (up1 a0) (up1 r) bs := by
 obtain ⟨p, hp, hSa⟩ := h.box
 refine ⟨BT _, BT _, fun e => h.ne (Nat.add_right_cancel e), ?_, by rw [Dg h.row]; rfl⟩
 rcases hp with rfl | rfl
 ·exact ⟨_, .inl rfl, by rw [Dg hSa]; rfl⟩
 ·exact ⟨_, .inr rfl, by rw [Dg hSa]; rfl⟩
theorem F5 {a0 r n : Nat} (ha : 1000 ≤ a0) (hr : 1000 ≤ r) : (AI.box bT [.ptr a0 1 0 0, .row r n]).high = true := by simp only [AI.high, AC.highs, AC.high, decide_eq_true ha, decide_eq_true hr, Bool.and_self]
theorem HD {a0 r : Nat} {bs : ByteArray} {S : AA} (h : Bld S a0 r bs) (s : ByteArray) (hz : bs.size + s.size ≤ 140737488355328) : Aj Try.prog 57 [.one (.ptr a0 1 0 0), Ed s] S (.tup [AR s.size, .one (.st (.lit .nilIface))]) (Eb S a0 r (bs ++ s)) := by
 obtain ⟨p, hp, hSa⟩ := h.box
 have hSr := h.row
 have ha := h.ha
 have hr := h.hr
 have hne := h.ne
 have hne2 : ¬ r = a0 := fun e => hne e.symm
 have hbl := Cf bs
 refine B7.acS fun hS C hC => ?_
 unfold BF
 repeat' with_reducible first | refine W ?_ | refine Z0 ?_ | ((first | refine Wo fun K hK => ?_ | refine Wp ?_ | refine Wq ?_ | refine Wr ?_); (try simp only [go_sem, fN, seval, eT, iR, hSa, dT, dF, nL]); (repeat refine Ai ?_); (try (refine hK _ ?_; clear hK K)); try refine iC ?_)
 refine ⟨_, _, FW (H5 h), ?_⟩
 repeat' with_reducible first | refine W ?_ | refine Z0 ?_ | ((first | refine Wo fun K hK => ?_ | refine Wp ?_ | refine Wq ?_ | refine Wr ?_); (try simp only [go_sem, fN, seval, eT, iR, hSa, hSr, hne, hne2, hbl, dT, dF, nL]); (repeat refine Ai ?_); (try (refine hK _ ?_; clear hK K)); try refine iC ?_)
 refine F_ (.tup [AR s.size, .one (.st (.lit .nilIface))]) hS ha hr hne2 (F5 ha hr) rfl trivial ?_ ?_ ?_ ?_ fun i hi i1 i2 => ?_
 ·simp only [go_sem, fN, seval, eT, iR, AH, AM, AY]
 ·simp only [go_sem, fN, seval, eT, iR]
  try rfl
 ·simp only [go_sem, fN, seval, eT, iR, hne, hne2]
  try (rw [ByteArray.size_append])
 ·simp only [go_sem, fN, seval, eT, iR, hne, hne2, FX]
 ·simp only [go_sem, fN, seval, eT, iR, i1, i2]
theorem JN (c : UInt8) : AU ⟨#[c]⟩ = [[.int .u8 (c.toNat : Int)]] := rfl
theorem DV {a0 r : Nat} {bs : ByteArray} {S : AA} (h : Bld S a0 r bs) (c : UInt8) (hz : bs.size + 1 ≤ 140737488355328) : Aj Try.prog 58 [.one (.ptr a0 1 0 0), .one (.st (.int .u8 (c.toNat : Int)))] S (.one (.st (.lit .nilIface))) (Eb S a0 r (bs ++ ⟨#[c]⟩)) := by
 obtain ⟨p, hp, hSa⟩ := h.box
 have hSr := h.row
 have ha := h.ha
 have hr := h.hr
 have hne := h.ne
 have hne2 : ¬ r = a0 := fun e => hne e.symm
 have hbl := Cf bs
 have hsz : (bs ++ ⟨#[c]⟩).size = bs.size + 1 := by rw [ByteArray.size_append]; rfl
 refine CI.acS fun hS C hC => ?_
 unfold BM
 repeat' with_reducible first | refine W ?_ | refine Z0 ?_ | ((first | refine Wo fun K hK => ?_ | refine Wp ?_ | refine Wq ?_ | refine Wr ?_); (try simp only [go_sem, fN, seval, eT, iR, hSa, dT, dF, nL]); (repeat refine Ai ?_); (try (refine hK _ ?_; clear hK K)); try refine iC ?_)
 refine ⟨_, _, FW (H5 h), ?_⟩
 have h63 : bs.size + 1 ≤ maxLen := by rw [BV]; omega
 repeat' with_reducible first | refine W ?_ | refine Z0 ?_ | ((first | refine Wo fun K hK => ?_ | refine Wp ?_ | refine Wq ?_ | refine Wr ?_); (try simp only [go_sem, fN, seval, eT, iR, hSa, hSr, hne, hne2, hbl, h63, dT, dF, nL]); (repeat refine Ai ?_); (try (refine hK _ ?_; clear hK K)); try refine iC ?_)
 refine F_ (.one (.st (.lit .nilIface))) hS ha hr hne2 (F5 ha hr) rfl trivial ?_ ?_ ?_ ?_ fun i hi i1 i2 => ?_
 ·simp only [go_sem, fN, seval, eT, iR, AH, AM, AY]
 ·simp only [go_sem, fN, seval, eT, iR]
  try rfl
 ·simp only [go_sem, fN, seval, eT, iR, hne, hne2, hbl, hsz]
 ·simp only [go_sem, fN, seval, eT, iR, hne, hne2, FX, JN]
 ·simp only [go_sem, fN, seval, eT, iR, i1, i2]
theorem Fj {a0 r : Nat} {bs : ByteArray} {S : AA} (h : Bld S a0 r bs) (h0 : 0 < bs.size) (hmx : bs.size ≤ 140737488355328) : Aj Try.prog 53 [.one (.ptr a0 1 0 0)] S (Ed bs) (AE S r (some (.dead bs.size 1))) := by
 obtain ⟨p, hp, hSa⟩ := h.box
 refine Ez (fun hc => B8 hc h.hr rfl) fun hclean C σ ι vs w hn R hvs => ?_
 obtain ⟨v, rfl⟩ : ∃ v, vs = [v] := by
  have := hvs.len
  match vs, this with
  | [v], _ => exact ⟨v, rfl⟩
 have hv : AL σ S ι v (.one (.ptr a0 1 0 0)) := by cases hvs with | cons h _ => exact h
 obtain ⟨g, hg, rfl⟩ := IJ hv hSa
 have hb := R.blk a0 _ hSa
 have hbr := R.blk r _ h.row
 have hlen : (AU bs).length = bs.size := Cf bs
 cases hb with
 | @box _ _ g' vs k1 k2 k3 k4 k5 =>
 rw [hg] at k1
 cases k1
 obtain ⟨v0, v1, hvs2⟩ := Iw (show vs.toList.length = 2 by rw [k4.len]; rfl)
 obtain rfl : vs = #[v0, v1] := Array.ext' hvs2
 have r1 : AT σ S ι v1 (.row r bs.size) := by cases k4 with | cons _ h => cases h with | cons h _ => exact h
 generalize hrow : AU bs = row at hbr hlen
 cases hbr with
 | mnil m1 m2 => simp at hlen; omega
 | @mrow _ _ _ gr cur m1 m2 m3 m4 m5 m6 m7 m8 m9 =>
 subst hrow
 have e1 : v1 = .slice (some ⟨gr, 0, none⟩) bs.size (ι r).cap := by
  cases r1 with
  | row q1 q2 q3 q4 =>
   rw [h.row] at q1
   cases q1
   rw [q4 hlen.symm, m2]
 subst e1
 have hl : bs.data.toList.length = bs.size := by rw [Array.length_toList]; rfl
 refine (E7 g gr (ι r).cap v0 cur bs.data.toList w (fun e => by rw [e] at hl; simp at hl; omega) (by rw [hl]; exact k3) m3 m5 (by omega) (by rw [m6, hl]; omega) fun j x hx => ?_).mono ?_
 ·have hx' : (AU bs)[j]? = some [SV.int .u8 (x.toNat : Int)] := by
   unfold AU
   rw [List.getElem?_map, hx]
   rfl
  obtain ⟨u, u1, u2⟩ := m8 j _ 0 _ hx' rfl
  rw [Nat.mul_one, Nat.add_zero] at u1
  rw [u1]
  cases u2
  rfl
 ·rintro e w' ⟨rfl, f1, f2, f3, f4, f5, f6⟩
  obtain ⟨hu, R'⟩ := R.turn (w' := w') h.row (.dead bs.size 1) (ι r) (σ' := σ) (fun _ _ h => h) (fun _ _ _ => rfl) (R.fit.row m9 f2) (by simp [AI.len, hlen]) (fun _ => ⟨rfl, rfl⟩) ⟨f3, f4, f5⟩ (by omega)
   (fun k hk hne => f2 k (fun e => hne (by rw [e]; exact m1))) (fun g h => .inl h) (fun hu => .dead fun g hg => by
    rw [m1] at hg
    cases hg
    obtain ⟨f', h'⟩ := f6 _ _ _ m3
    exact ⟨_, h', rfl⟩)
  refine ⟨_, σ, _, _, rfl, R', .one (.st (.str ?_))⟩
  show bs.size ≤ maxLen
  rw [BV]
  omega

def El : IR :=
 (.seq (.ops [.i 1 (.box 28 (.t 0)), .i 2 (.mov (.c (.one (.st (.str (ByteArray.mk (#[])))))))]) (.seq (.ops [.i 3 (.alloc 83 [.st (.lit (.pointer none)), .full []])]) (.seq (.ops [.L 4 2 1, .i 5 (.callS 52 [.t 3, .t 4])]) (.seq (.ops [.i 6 (.callS 53 [.t 3]), .m 2 6]) .ret))))
theorem IG : OkF Try.prog 45 7 [5, 6] El [.t 2] := .of Try.func45 rfl rfl (by kernel_rfl) rfl
def E0 : IR :=
 (.seq (.ops [.i 3 (.box 28 (.t 1))]) (.seq (.ops [.m 6 0, .f 7 0 3, .l 8 7, .i 9 (.callS 57 [.t 6, .t 8])]) (.seq (.seq (.ops [.f 10 1 3, .l 11 10, .i 12 (.len false (.t 11)), .i 13 (.mov (.n 0))]) (.block 0 (.loop (.seq (.ops [.i 14 (.bin .lss (.t 13) (.t 12))]) (.seq (.cond (.t 14) .skip (.exit 0)) (.seq (.block 1 (.seq (.ops [.m 15 13, .i 16 (.indexAddr 2 (.t 11) (.t 13)), .L 17 2 16, .i 5 (.alloc 28 [.st (.str (ByteArray.mk (#[]))), .full []]), .m 4 15, .s 2 5 17]) (.seq (.ops [.m 18 0, .m 19 4, .i 20 (.mm false (.t 19) (.n 1)), .i 21 (.indexStr (.c (.one (.st (.str (ByteArray.mk (#[40, 44])))))) (.t 20)), .i 22 (.callS 58 [.t 18, .t 21])]) (.ops [.m 23 0, .L 24 2 5, .i 25 (.callS 52 [.t 23, .t 24])])))) (.ops [.i 26 (.bin .add (.t 13) (.n 1)), .m 13 26]))))))) (.seq (.ops [.f 27 1 3, .l 28 27, .i 29 (.len false (.t 28)), .i 30 (.bin .gtr (.t 29) (.n 0))]) (.cond (.t 30) (.ops [.m 31 0, .i 32 (.callS 58 [.t 31, .c (.one (.st (.int .u8 41)))])]) .skip)))))
theorem IQ : OkF Try.prog 52 33 [9, 22, 25, 32] E0 [] := .of Try.func52 rfl rfl (by kernel_rfl) rfl

theorem Fv {S : AA} {a0 r : Nat} {bs : ByteArray} (ha : 1000 ≤ a0) (hr : 1000 ≤ r) (hne : a0 ≠ r) (h1 : S a0 = some (.box bT [.ptr a0 1 0 0, .row r bs.size])) (h2 : S r = some (.mrow u8T 1 (AU bs))) : Bld (upS S) (up1 a0) (up1 r) bs :=
 H5 ⟨ha, hr, hne, ⟨_, .inr rfl, h1⟩, h2⟩
theorem Nj {S S' : AA} {a0 r : Nat} {bs : ByteArray} (h : Bld S a0 r bs) (h1 : S' a0 = S a0) (h2 : S' r = S r) : Bld (upS S') (up1 a0) (up1 r) bs := by
 obtain ⟨p, hp, hb⟩ := h.box
 exact H5 ⟨h.ha, h.hr, h.ne, ⟨p, hp, h1.trans hb⟩, h2.trans h.row⟩
theorem Ij {C : Ctx} {rs : List RV} {r : AV} {e : AX} {s : AS} {S : AA} {a0 r0 : Nat} {bs : ByteArray} (h : Bld S a0 r0 bs) {cs : ByteArray} (rv : AV) (hS : Ah S) (he : match e with | .normal => True | .ret => True | _ => False)
  (h1 : (AH s rs).map AY = some rv) (h2 : outV s.S rv = some r) (h3 : s.S a0 = some (.box bT [.ptr a0 1 0 0, .row r0 cs.size])) (h3' : s.S r0 = some (.mrow u8T 1 (AU cs))) (h4 : ∀ i, 1000 ≤ i → i ≠ a0 → i ≠ r0 → s.S i = S i) : E8 C rs r (Eb S a0 r0 cs) e s :=
 F_ rv hS h.ha h.hr (fun e => h.ne e.symm) (F5 h.ha h.hr) rfl he h1 h2 h3 h3' h4
theorem OY (t : Tm) : ∀ {a0 r : Nat} {bs : ByteArray} {S : AA}, Bld S a0 r bs → bs.size + t.text.size ≤ 1000000000 → Aj Try.prog 52 [.one (.ptr a0 1 0 0), aTm t] S (.tup []) (Eb S a0 r (bs ++ t.text)) := by
 obtain ⟨N, hN⟩ : ∃ N, SizeOf.sizeOf t < N := ⟨_, Nat.lt_succ_self _⟩
 induction N generalizing t with
 | zero => omega
 | succ N ih =>
 intro a0 r bs S h hz
 have ha := h.ha
 have hr := h.hr
 have hne := h.ne
 have hne2 : ¬ r = a0 := fun e => hne e.symm
 have a3 : ¬ a0 = 3 := by omega
 have r3 : ¬ r = 3 := by omega
 have q3 : ¬ 3 = a0 := by omega
 have s3 : ¬ 3 = r := by omega
 have a5 : ¬ a0 = 5 := by omega
 have r5 : ¬ r = 5 := by omega
 have q5 : ¬ 5 = a0 := by omega
 have s5 : ¬ 5 = r := by omega
 have hn0 := t.ahead_le 0
 rw [Tm.ahead_zero] at hn0
 refine IQ.acS fun hS C hC => ?_
 have k3 : S 3 = none := Bg hS (by omega)
 have k5 : S 5 = none := Bg hS (by omega)
 unfold E0
 repeat' with_reducible first | refine W ?_ | refine Z0 ?_ | ((first | refine Wo fun K hK => ?_ | refine Wp ?_ | refine Wq ?_ | refine Wr ?_); (try simp only [go_sem, fN, seval, eT, iR, k3, k5, dT, dF, nL]); (repeat refine Ai ?_); (try (refine hK _ ?_; clear hK K)); try refine iC ?_)
 refine ⟨_, _, HD (Nj h (by simp only [go_sem, fN, seval, eT, iR, a3]) (by simp only [go_sem, fN, seval, eT, iR, r3])) t.name (by omega), ?_⟩
 repeat' with_reducible first | refine W ?_ | refine Z0 ?_ | ((first | refine Wo fun K hK => ?_ | refine Wp ?_ | refine Wq ?_ | refine Wr ?_); (try simp only [go_sem, fN, seval, eT, iR, Eb, q3, s3, hne, hne2, k5, dT, dF, nL]); (repeat refine Ai ?_); (try (refine hK _ ?_; clear hK K)); try refine iC ?_)
 refine IWP.loopD [5] (fun m s => ∃ k, k ≤ t.args.length ∧ m = t.args.length - k ∧ s.env 0 = .one (.ptr a0 1 0 0) ∧ s.env 3 = .one (.ptr 3 1 0 0) ∧ s.env 11 = .one (.st (.list (t.args.map BY))) ∧ s.env 12 = AR t.args.length ∧ s.env 13 = AR k ∧ s.S 3 = some (.box 28 [.st (.str t.name), .st (.list (t.args.map BY))]) ∧ s.S 5 = none ∧ s.S a0 = some (.box bT [.ptr a0 1 0 0, .row r (bs ++ t.ahead k).size]) ∧ s.S r = some (.mrow u8T 1 (AU (bs ++ t.ahead k))) ∧ ∀ i, 1000 ≤ i → i ≠ a0 → i ≠ r → s.S i = S i) t.args.length ⟨0, Nat.zero_le _, rfl, rfl, rfl, rfl, rfl, rfl, ?_, ?_, ?_, ?_, fun i hi i1 i2 => ?_⟩ ?_
 ·simp only [go_sem, fN, seval, eT, iR, q3, s3]
 ·simp only [go_sem, fN, seval, eT, iR, q5, s5, k5]
 ·rw [Tm.ahead_zero]
  simp only [go_sem, fN, seval, eT, iR, hne, hne2]
 ·rw [Tm.ahead_zero]
  simp only [go_sem, fN, seval, eT, iR, hne, hne2]
 ·have i3 : ¬ i = 3 := by omega
  simp only [go_sem, fN, seval, eT, iR, i1, i2, i3]
 rintro m ⟨env, T⟩ ⟨k, hk, rfl, e0, e3, e11, e12, e13, t3, t5, ta, tr, th⟩
 simp only at e0 e3 e11 e12 e13 t3 t5 ta tr th
 have hah := t.ahead_le k
 have hal0 := t.args_text
 have hg := Fv ha hr hne ta tr
 by_cases hlt : k < t.args.length
 case neg =>
  have hlt' : ¬ (k : Int) < t.args.length := by omega
  have hal := Tm.ahead_all (t := t) (k := k) (by omega)
  by_cases h0 : k = 0
  ·rw [if_pos h0, append_empty] at hal
   have hl0 : ¬ (0 : Int) < t.args.length := by omega
   repeat' with_reducible first | refine W ?_ | refine Z0 ?_ | ((first | refine Wo fun K hK => ?_ | refine Wp ?_ | refine Wq ?_ | refine Wr ?_); (try simp only [go_sem, fN, seval, eT, iR, e0, e3, e11, e12, e13, t3, t5, ta, tr, hlt', hl0, dT, dF, nL]); (repeat refine Ai ?_); (try (refine hK _ ?_; clear hK K)); try refine iC ?_)
   refine Ij h (.tup []) hS trivial rfl rfl ?_ ?_ fun i hi i1 i2 => ?_
   ·rw [hal]
    simp only [go_sem, fN, seval, eT, iR, ta]
   ·rw [hal]
    simp only [go_sem, fN, seval, eT, iR, tr]
   ·exact th i hi i1 i2
  ·rw [if_neg h0] at hal
   have hl0 : (0 : Int) < t.args.length := by omega
   rw [hal, ByteArray.size_append] at hz
   have z1 : (⟨#[41]⟩ : ByteArray).size = 1 := rfl
   repeat' with_reducible first | refine W ?_ | refine Z0 ?_ | ((first | refine Wo fun K hK => ?_ | refine Wp ?_ | refine Wq ?_ | refine Wr ?_); (try simp only [go_sem, fN, seval, eT, iR, e0, e3, e11, e12, e13, t3, t5, ta, tr, hlt', hl0, dT, dF, nL]); (repeat refine Ai ?_); (try (refine hK _ ?_; clear hK K)); try refine iC ?_)
   refine ⟨_, _, (DV hg 41 (by rw [ByteArray.size_append]; omega) : Aj _ _ [_, .one (.st (.int .u8 41))] _ _ _), ?_⟩
   repeat' with_reducible first | refine W ?_ | refine Z0 ?_ | ((first | refine Wo fun K hK => ?_ | refine Wp ?_ | refine Wq ?_ | refine Wr ?_); (try simp only [go_sem, fN, seval, eT, iR, Eb, q3, s3, hne, hne2, dT, dF, nL]); (repeat refine Ai ?_); (try (refine hK _ ?_; clear hK K)); try refine iC ?_)
   rw [hal, ← ByteArray.append_assoc]
   refine Ij h (.tup []) hS trivial rfl rfl ?_ ?_ fun i hi i1 i2 => ?_
   ·simp only [go_sem, fN, seval, eT, iR, hne, hne2]
    try rfl
   ·simp only [go_sem, fN, seval, eT, iR, hne, hne2]
    try rfl
   ·simp only [go_sem, fN, seval, eT, iR, i1, i2]
    exact th i hi i1 i2
 have hlt' : (k : Int) < t.args.length := by omega
 obtain ⟨a, haa⟩ := BB hlt
 have hm := AW haa
 have hta := Tm.text_lt hm
 have hs := @ih a (by have := Tm.lt_of_arg hm; omega)
 have hnx := Tm.ahead_succ haa
 have h1 := t.ahead_le (k + 1)
 rw [hnx, ByteArray.size_append, ByteArray.size_append, GR] at h1
 have z1 : (⟨#[40]⟩ : ByteArray).size = 1 := rfl
 have z2 : (⟨#[44]⟩ : ByteArray).size = 1 := rfl
 have ab5 : (a0 == 5) = false := beq_false_of_ne (by omega)
 have rb5 : (r == 5) = false := beq_false_of_ne (by omega)
 have b0 : Fg (⟨#[40, 44]⟩ : ByteArray) 0 = 40 := by decide
 have b1 : Fg (⟨#[40, 44]⟩ : ByteArray) 1 = 44 := by decide
 have hg0 : ∀ B C : AI, Bld (upS (AE (AE T 5 (some B)) 5 (some C))) (up1 a0) (up1 r) (bs ++ t.ahead k) := fun B C => Fv ha hr hne (by simp only [go_sem, fN, seval, eT, iR, a5, ta]) (by simp only [go_sem, fN, seval, eT, iR, r5, tr])
 by_cases h0 : k = 0
 ·subst h0
  rw [Ml] at hnx
  have hl0 : (0 : Int) < t.args.length := by omega
  repeat' with_reducible first | refine W ?_ | refine Z0 ?_ | ((first | refine Wo fun K hK => ?_ | refine Wp ?_ | refine Wq ?_ | refine Wr ?_); (try simp only [go_sem, fN, seval, eT, iR, e0, e3, e11, e12, e13, t3, t5, ta, tr, hl0, haa, b0, dT, dF, nL]); (repeat refine Ai ?_); (try (refine hK _ ?_; clear hK K)); try refine iC ?_)
  refine ⟨_, _, (DV (hg0 _ _) 40 (by rw [ByteArray.size_append]; omega) : Aj _ _ [_, .one (.st (.int .u8 40))] _ _ _), ?_⟩
  repeat' with_reducible first | refine W ?_ | refine Z0 ?_ | ((first | refine Wo fun K hK => ?_ | refine Wp ?_ | refine Wq ?_ | refine Wr ?_); (try simp only [go_sem, fN, seval, eT, iR, e0, e3, e11, e12, e13, t3, Eb, q3, s3, q5, s5, hne, hne2, dT, dF, nL]); (repeat refine Ai ?_); (try (refine hK _ ?_; clear hK K)); try refine iC ?_)
  refine ⟨_, _, hs (Fv (bs := bs ++ t.ahead 0 ++ ⟨#[40]⟩) ha hr hne (by simp only [go_sem, fN, seval, eT, iR, hne, hne2]) (by simp only [go_sem, fN, seval, eT, iR, hne, hne2])) (by rw [ByteArray.size_append, ByteArray.size_append]; omega), ?_⟩
  repeat' with_reducible first | refine W ?_ | refine Z0 ?_ | ((first | refine Wo fun K hK => ?_ | refine Wp ?_ | refine Wq ?_ | refine Wr ?_); (try simp only [go_sem, fN, seval, eT, iR, e0, e3, e11, e12, e13, t3, Eb, q3, s3, q5, s5, hne, hne2, dT, dF, nL]); (repeat refine Ai ?_); (try (refine hK _ ?_; clear hK K)); try refine iC ?_)
  refine AK ⟨t.args.length - (0 + 1), by omega, 0 + 1, by omega, rfl, ?_⟩
  simp only [go_sem, fN, seval, AS.drop, Ao, AC.clears, AC.clear, AC.highs, AC.high, Bool.not_false, Bool.true_and, Bool.and_self, AV.purge, AV.purges, AC.purge, AI.purge, List.contains_cons, List.contains_nil, Nat.reduceBEq, Bool.or_self, Bool.or_false, Bool.false_or, Bool.or_true, eT, iR, e0, e3, e11, e12, e13, t3, hne, hne2, hnx, q3, s3, q5, s5, ab5, rb5]
  refine ⟨by simp only [Nat.add_assoc], by simp only [ByteArray.append_assoc], fun i hi i1 i2 => ?_⟩
  have i5 : ¬ i = 5 := by omega
  have i5b : (i == 5) = false := beq_false_of_ne i5
  simp only [i5b, i5, i1, i2, if_false, Bool.false_eq_true]
  rw [th i hi i1 i2]
  exact MU (by decide) fun b hb => (hS i b hb).2
 ·rw [Mf h0] at hnx
  have h0' : (if (1 : Int) < (k : Int) then (1 : Int) else (k : Int)) = 1 := by split <;> omega
  repeat' with_reducible first | refine W ?_ | refine Z0 ?_ | ((first | refine Wo fun K hK => ?_ | refine Wp ?_ | refine Wq ?_ | refine Wr ?_); (try simp only [go_sem, fN, seval, eT, iR, e0, e3, e11, e12, e13, t3, t5, ta, tr, hlt', h0', haa, b1, dT, dF, nL]); (repeat refine Ai ?_); (try (refine hK _ ?_; clear hK K)); try refine iC ?_)
  refine ⟨_, _, (DV (hg0 _ _) 44 (by rw [ByteArray.size_append]; omega) : Aj _ _ [_, .one (.st (.int .u8 44))] _ _ _), ?_⟩
  repeat' with_reducible first | refine W ?_ | refine Z0 ?_ | ((first | refine Wo fun K hK => ?_ | refine Wp ?_ | refine Wq ?_ | refine Wr ?_); (try simp only [go_sem, fN, seval, eT, iR, e0, e3, e11, e12, e13, t3, Eb, q3, s3, q5, s5, hne, hne2, dT, dF, nL]); (repeat refine Ai ?_); (try (refine hK _ ?_; clear hK K)); try refine iC ?_)
  refine ⟨_, _, hs (Fv (bs := bs ++ t.ahead k ++ ⟨#[44]⟩) ha hr hne (by simp only [go_sem, fN, seval, eT, iR, hne, hne2]) (by simp only [go_sem, fN, seval, eT, iR, hne, hne2])) (by rw [ByteArray.size_append, ByteArray.size_append]; omega), ?_⟩
  repeat' with_reducible first | refine W ?_ | refine Z0 ?_ | ((first | refine Wo fun K hK => ?_ | refine Wp ?_ | refine Wq ?_ | refine Wr ?_); (try simp only [go_sem, fN, seval, eT, iR, e0, e3, e11, e12, e13, t3, Eb, q3, s3, q5, s5, hne, hne2, dT, dF, nL]); (repeat refine Ai ?_); (try (refine hK _ ?_; clear hK K)); try refine iC ?_)
  refine AK ⟨t.args.length - (k + 1), by omega, k + 1, by omega, rfl, ?_⟩
  simp only [go_sem, fN, seval, AS.drop, Ao, AC.clears, AC.clear, AC.highs, AC.high, Bool.not_false, Bool.true_and, Bool.and_self, AV.purge, AV.purges, AC.purge, AI.purge, List.contains_cons, List.contains_nil, Nat.reduceBEq, Bool.or_self, Bool.or_false, Bool.false_or, Bool.or_true, eT, iR, e0, e3, e11, e12, e13, t3, hne, hne2, hnx, q3, s3, q5, s5, ab5, rb5]
  refine ⟨by congr 3, by simp only [Nat.add_assoc], by simp only [ByteArray.append_assoc], fun i hi i1 i2 => ?_⟩
  have i5 : ¬ i = 5 := by omega
  have i5b : (i == 5) = false := beq_false_of_ne i5
  simp only [i5b, i5, i1, i2, if_false, Bool.false_eq_true]
  rw [th i hi i1 i2]
  exact MU (by decide) fun b hb => (hS i b hb).2
theorem M1 (t : Tm) (h0 : 0 < t.name.size) (hz : t.text.size ≤ 100000000) : Ac Try.prog 45 [aTm t] (Ed t.text) := by
 have hn0 := t.ahead_le 0
 rw [Tm.ahead_zero] at hn0
 have hne : ∀ b : ByteArray, (⟨#[]⟩ : ByteArray) ++ b = b := empty_append
 refine IG.ac fun C hC => ?_
 unfold El
 refine W ?_
 refine Wo (fun K hK => ?_)
 (try simp only [go_sem, fN, seval, eT, iR])
 (repeat with_reducible refine Ai ?_)
 refine hK _ ?_
 clear hK K
 refine W ?_
 refine W ?_
 refine Wo (fun K hK => ?_)
 (try simp only [go_sem, fN, seval, eT, iR])
 (repeat with_reducible refine Ai ?_)
 refine hK _ ?_
 clear hK K
 refine W ?_
 refine IWP.ghost (AZ.ownCell (id := 3) (r := 900) (e' := u8T) 1 1 (by rfl) (by rfl) (by rfl) (by decide)) ?_
 repeat' with_reducible first | refine W ?_ | refine Z0 ?_ | ((first | refine Wo fun K hK => ?_ | refine Wp ?_ | refine Wq ?_ | refine Wr ?_); (try simp only [go_sem, fN, seval, eT, iR, dT, dF, nL]); (repeat refine Ai ?_); (try (refine hK _ ?_; clear hK K)); try refine iC ?_)
 refine ⟨_, _, OY t (a0 := up1 3) (r := up1 900) (bs := ⟨#[]⟩) ⟨by decide, by decide, by decide, ⟨_, .inl rfl, by rw [Ca]; rfl⟩, by rw [Ca]; rfl⟩ (by show 0 + _ ≤ _; omega), ?_⟩
 repeat' with_reducible first | refine W ?_ | refine Z0 ?_ | ((first | refine Wo fun K hK => ?_ | refine Wp ?_ | refine Wq ?_ | refine Wr ?_); (try simp only [go_sem, fN, seval, eT, iR, Eb, dT, dF, nL]); (repeat refine Ai ?_); (try (refine hK _ ?_; clear hK K)); try refine iC ?_)
 refine ⟨_, _, Fj (a0 := up1 3) (r := up1 900) (bs := ⟨#[]⟩ ++ t.text) ⟨by decide, by decide, by decide, ⟨_, .inr rfl, by rw [Ca]; (simp only [go_sem, fN, seval, eT, iR]; try rfl)⟩, by rw [Ca]; (simp only [go_sem, fN, seval, eT, iR]; try rfl)⟩ (by rw [hne]; omega) (by rw [hne]; omega), ?_⟩
 repeat' with_reducible first | refine W ?_ | refine Z0 ?_ | ((first | refine Wo fun K hK => ?_ | refine Wp ?_ | refine Wq ?_ | refine Wr ?_); (try simp only [go_sem, fN, seval, eT, iR, dT, dF, nL]); (repeat refine Ai ?_); (try (refine hK _ ?_; clear hK K)); try refine iC ?_)
 simp only [go_sem, fN, seval, Af, AS.result, AH, AM, AY]
 rw [hne]

def En : IR :=
 (.seq (.ops [.i 1 (.box 28 (.t 0)), .i 2 (.mov (.n 0))]) (.seq (.ops [.i 3 (.mov (.n 1))]) (.seq (.seq (.ops [.f 6 1 1, .l 7 6, .i 8 (.len false (.t 7)), .i 9 (.mov (.n 0))]) (.block 0 (.loop (.seq (.ops [.i 10 (.bin .lss (.t 9) (.t 8))]) (.seq (.cond (.t 10) .skip (.exit 0)) (.seq (.block 1 (.seq (.ops [.i 11 (.indexAddr 2 (.t 7) (.t 9)), .L 12 2 11, .i 5 (.alloc 28 [.st (.str (ByteArray.mk (#[]))), .full []]), .s 2 5 12]) (.ops [.m 13 3, .L 14 2 5, .i 15 (.call 32 [.t 14]), .i 16 (.bin .add (.t 13) (.t 15)), .m 3 16]))) (.ops [.i 17 (.bin .add (.t 9) (.n 1)), .m 9 17]))))))) (.seq (.ops [.m 18 3, .m 2 18]) .ret))))
theorem IL : OkF Try.prog 32 19 [] En [.t 2] := .of Try.func32 rfl rfl (by kernel_rfl) rfl

theorem Ep (t : Tm) (hz : t.size ≤ 1000000) : Ac Try.prog 32 [aTm t] (AR t.size) := by
 induction h : SizeOf.sizeOf t using Nat.strongRecOn generalizing t with
 | _ N ih =>
 subst h
 have hs := Tm.size_eq t
 have hln := Tm.length_le t.args
 refine IL.ac fun C hC => ?_
 unfold En
 repeat' with_reducible first | refine W ?_ | refine Z0 ?_ | ((first | refine Wo fun K hK => ?_ | refine Wp ?_ | refine Wq ?_ | refine Wr ?_); (try simp only [go_sem, fN, seval, eT, iR, dT, dF, nL]); (repeat refine Ai ?_); (try (refine hK _ ?_; clear hK K)); try refine iC ?_)
 refine IWP.loopD [5] (fun m s => ∃ k, k ≤ t.args.length ∧ m = t.args.length - k ∧ s.env 3 = AR ((1 + Tm.sizes (t.args.take k) : Nat) : Int) ∧ s.env 7 = Ok t.args ∧ s.env 8 = AR t.args.length ∧ s.env 9 = AR k ∧ s.S 5 = none) t.args.length ⟨0, Nat.zero_le _, rfl, rfl, rfl, rfl, rfl, rfl⟩ ?_
 rintro m ⟨env, S⟩ ⟨k, hk, rfl, e3, e7, e8, e9, s5⟩
 simp only at e3 e7 e8 e9 s5
 by_cases hlt : (k : Int) < t.args.length
 ·obtain ⟨a, ha⟩ := BB (show k < t.args.length by omega)
  have h1 := Tm.sizes_take ha
  have h2 := Tm.sizes_take_le t.args (k + 1)
  repeat' (first | (with_reducible first | refine W ?_ | refine Z0 ?_ | ((first | refine Wo fun K hK => ?_ | refine Wp ?_ | refine Wq ?_ | refine Wr ?_); (try simp only [go_sem, fN, seval, eT, iR, e3, e7, e8, e9, s5, hlt, ha, dT, dF, nL]); (repeat refine Ai ?_); (try (refine hK _ ?_; clear hK K)); try refine iC ?_)) | refine Cg _ (ih _ (Tm.lt_of_arg (AW ha)) a (by omega) rfl) ?_)
  refine AK ⟨t.args.length - (k + 1), by omega, k + 1, by omega, rfl, ?_⟩
  simp only [go_sem, fN, seval, AS.drop, Ao, AC.clears, AC.clear, AC.highs, AC.high, Bool.not_false, Bool.true_and, Bool.and_self, AV.purge, AV.purges, AC.purge, AI.purge, List.contains_cons, List.contains_nil, Nat.reduceBEq, Bool.or_self, Bool.or_false, Bool.false_or, Bool.or_true, eT, iR, e3, e7, e8, e9, s5]
  exact ⟨by rw [h1]; congr 3; omega, by congr 3⟩
 ·repeat' with_reducible first | refine W ?_ | refine Z0 ?_ | ((first | refine Wo fun K hK => ?_ | refine Wp ?_ | refine Wq ?_ | refine Wr ?_); (try simp only [go_sem, fN, seval, eT, iR, e3, e7, e8, e9, hlt, dT, dF, nL]); (repeat refine Ai ?_); (try (refine hK _ ?_; clear hK K)); try refine iC ?_)
  simp only [go_sem, fN, seval, Af, AS.result, AH, AM, AY]
  rw [List.take_of_length_le (by omega), hs]

def C8 (a : Au) (t : Tm) : Int := if a.may 8 40 = 0 then (if t.may = 0 then (if t.varsOf.length = 0 then 0 else 15) else t.may) else a.may 8 40
theorem FO (a : Au) (t : Tm) (hl : a.last.length ≤ 100000) (hz : t.size ≤ 1000000) : Ac Try.prog 12 [aAu a, aTm t] (.tup [BX (decide (C8 a t = 0) && a.acc t), AR (C8 a t)]) := by
 by_cases h1 : a.may 8 40 = 0
 case neg =>
  have e : C8 a t = a.may 8 40 := if_neg h1
  rw [e]
  refine BN.ac fun C hC => ?_
  unfold A_
  repeat' (first | (with_reducible first | refine W ?_ | refine Z0 ?_ | ((first | refine Wo fun K hK => ?_ | refine Wp ?_ | refine Wq ?_ | refine Wr ?_); (try simp only [go_sem, fN, seval, eT, iR, h1, dT, dF, nL]); (repeat refine Ai ?_); (try (refine hK _ ?_; clear hK K)); try refine iC ?_)) | refine Cg _ (CW a) ?_)
  simp only [go_sem, fN, seval, Af, AS.result, AH, AM, AY, h1]
  rfl
 case pos =>
 have e1 : C8 a t = if t.may = 0 then (if t.varsOf.length = 0 then 0 else 15) else t.may := if_pos h1
 have ga := Au.may_good h1
 obtain ⟨a1, _, _⟩ := Au.may_ok.1 h1
 by_cases h2 : t.may = 0
 case neg =>
  rw [e1, if_neg h2]
  refine BN.ac fun C hC => ?_
  unfold A_
  repeat' (first | (with_reducible first | refine W ?_ | refine Z0 ?_ | ((first | refine Wo fun K hK => ?_ | refine Wp ?_ | refine Wq ?_ | refine Wr ?_); (try simp only [go_sem, fN, seval, eT, iR, h1, h2, dT, dF, nL]); (repeat refine Ai ?_); (try (refine hK _ ?_; clear hK K)); try refine iC ?_)) | refine Cg _ (CW a) ?_ | refine Cg _ (EV t) ?_)
  simp only [go_sem, fN, seval, Af, AS.result, AH, AM, AY, h2]
  rfl
 case pos =>
 rw [if_pos h2] at e1
 by_cases h3 : t.varsOf.length = 0
 case neg =>
  rw [if_neg h3] at e1
  rw [e1]
  have h3' : (0 : Int) < t.varsOf.length := by omega
  refine BN.ac fun C hC => ?_
  unfold A_
  repeat' (first | (with_reducible first | refine W ?_ | refine Z0 ?_ | ((first | refine Wo fun K hK => ?_ | refine Wp ?_ | refine Wq ?_ | refine Wr ?_); (try simp only [go_sem, fN, seval, eT, iR, h1, h2, h3', dT, dF, nL]); (repeat refine Ai ?_); (try (refine hK _ ?_; clear hK K)); try refine iC ?_)) | refine Cg _ (CW a) ?_ | refine Cg _ (EV t) ?_ | refine Cg _ (KI t hz) ?_)
  simp only [go_sem, fN, seval, Af, AS.result, AH, AM, AY]
  rfl
 case pos =>
 rw [if_pos h3] at e1
 rw [e1]
 have hacc := Mt ga t
 have hE := On a ga (by omega) (by omega) t hz
 have hL := NE a ga (by omega) hl
 have iE := Na (l := a.ends t) (by rw [a.ends_length]; omega)
 have iL := Na (l := a.lastB) (by rw [a.lastB_length]; omega)
 have h0 : (0 : Int) ≤ (bN (a.ends t) : Int) ∧ (0 : Int) ≤ (bN a.lastB : Int) := ⟨Int.natCast_nonneg _, Int.natCast_nonneg _⟩
 cases hq : a.acc t with
 | true =>
  rw [hq] at hacc
  have hne : ¬ ((bN (a.ends t) &&& bN a.lastB : Nat) : Int) = 0 := fun e => hacc.2 rfl (by omega)
  refine BN.ac fun C hC => ?_
  unfold A_
  repeat' (first | (with_reducible first | refine W ?_ | refine Z0 ?_ | ((first | refine Wo fun K hK => ?_ | refine Wp ?_ | refine Wq ?_ | refine Wr ?_); (try simp only [go_sem, fN, seval, eT, iR, h1, h2, h3, G9, h0, Int.toNat_natCast, hne, dT, dF, nL]); (repeat refine Ai ?_); (try (refine hK _ ?_; clear hK K)); try refine iC ?_)) | refine Cg _ (CW a) ?_ | refine Cg _ (EV t) ?_ | refine Cg _ (KI t hz) ?_ | refine Cg _ (hE) ?_ | refine Cg _ (hL) ?_)
  simp only [go_sem, fN, seval, Af, AS.result, AH, AM, AY, hne]
  rfl
 | false =>
  rw [hq] at hacc
  have hne : ((bN (a.ends t) &&& bN a.lastB : Nat) : Int) = 0 := by
   by_cases e : bN (a.ends t) &&& bN a.lastB = 0
   ·rw [e]; rfl
   ·exact absurd (hacc.1 e) (by decide)
  refine BN.ac fun C hC => ?_
  unfold A_
  repeat' (first | (with_reducible first | refine W ?_ | refine Z0 ?_ | ((first | refine Wo fun K hK => ?_ | refine Wp ?_ | refine Wq ?_ | refine Wr ?_); (try simp only [go_sem, fN, seval, eT, iR, h1, h2, h3, G9, h0, Int.toNat_natCast, hne, dT, dF, nL]); (repeat refine Ai ?_); (try (refine hK _ ?_; clear hK K)); try refine iC ?_)) | refine Cg _ (CW a) ?_ | refine Cg _ (EV t) ?_ | refine Cg _ (KI t hz) ?_ | refine Cg _ (hE) ?_ | refine Cg _ (hL) ?_)
  simp only [go_sem, fN, seval, Af, AS.result, AH, AM, AY, hne]
  rfl
theorem Il {t : Tm} (h : Eo t) : 0 < t.name.size := by
 have h1 := h.1
 rw [Tm.chk_eq] at h1
 split at h1
 ·rename_i h0
  have := Fc h0
  omega
 ·rename_i h0
  exact absurd h1 h0
theorem MK (a b : Tm) (ha : Eo a) (hb : Eo b) : Ac Try.prog 33 [aTm a, aTm b] (BX (Ck a b)) := by
 have za := ha.2
 have zb := hb.2
 have ta := GF ha
 have tb := GF hb
 by_cases h : a.size = b.size
 ·have e : Ck a b = sLt a.text b.text := if_pos h
  rw [e]
  have h' : (a.size : Int) - b.size = 0 := by omega
  refine Ee.ac fun C hC => ?_
  unfold DN
  repeat' (first | (with_reducible first | refine W ?_ | refine Z0 ?_ | ((first | refine Wo fun K hK => ?_ | refine Wp ?_ | refine Wq ?_ | refine Wr ?_); (try simp only [go_sem, fN, seval, eT, iR, h', dT, dF, nL]); (repeat refine Ai ?_); (try (refine hK _ ?_; clear hK K)); try refine iC ?_)) | refine Cg _ (Ep a (by omega)) ?_ | refine Cg _ (Ep b (by omega)) ?_ | refine Cg _ (M1 a (Il ha) (by omega)) ?_ | refine Cg _ (M1 b (Il hb) (by omega)) ?_)
  simp only [go_sem, fN, seval, Af, AS.result, AH, AM, AY]
 ·have e : Ck a b = decide (a.size < b.size) := if_neg h
  rw [e]
  have h' : ¬ (a.size : Int) - b.size = 0 := by omega
  have h2 : ((a.size : Int) - b.size < 0) = (a.size < b.size) := by rw [eq_iff_iff]; omega
  refine Ee.ac fun C hC => ?_
  unfold DN
  repeat' (first | (with_reducible first | refine W ?_ | refine Z0 ?_ | ((first | refine Wo fun K hK => ?_ | refine Wp ?_ | refine Wq ?_ | refine Wr ?_); (try simp only [go_sem, fN, seval, eT, iR, h', h2, dT, dF, nL]); (repeat refine Ai ?_); (try (refine hK _ ?_; clear hK K)); try refine iC ?_)) | refine Cg _ (Ep a (by omega)) ?_ | refine Cg _ (Ep b (by omega)) ?_)
  simp only [go_sem, fN, seval, Af, AS.result, AH, AM, AY]

end Go.Proofs.Ytbknconogoegaaa
