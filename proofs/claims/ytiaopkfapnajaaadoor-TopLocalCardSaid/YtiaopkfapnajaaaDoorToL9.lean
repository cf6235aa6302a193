/-
  Part 9 of the texts. Conditions: none.
-/
import Derived.Test.YtiaopkfapnajaaaDoorToL8
namespace Go.Proofs.YtiaopkfapnajaaaDoor
open Go Go.RowKit
set_option linter.unusedVariables false
set_option linter.unusedSimpArgs false
set_option maxHeartbeats 1000000
abbrev UB (vs : List ByteArray) : AJ := .box 37 [.st (.list (vs.map Eb))]
theorem RL (vs : List ByteArray) (x : ByteArray) (b : Nat) (hb : 1000 ≤ b) (S : AA) (sb : S b = some (UB vs)) : Am Tryd.prog 24 [Bg x, .one (.ptr b 1 0 0)] S (Af (!C6 x vs)) S := by
 refine GQ.acS fun hS C hC => ?_
 unfold Ds
 repeat' (first | (with_reducible first | refine W ?_ | refine Z0 ?_ | ((first | refine Wo fun K hK => ?_ | refine Wp ?_ | refine Wq ?_ | refine Wr ?_); (try simp only [go_sem, fN, seval, eT, iR, sb, dT, dF, nL]); (repeat refine Ai ?_); (try (refine hK _ ?_; clear hK K)); try refine iC ?_)) | refine Cg _ (GU vs x) ?_)
 refine CD (Af (!C6 x vs)) hS trivial ?_ rfl fun _ _ => rfl
 simp [AB, AD, AI, AH]
theorem Sk {p : ByteArray → Bool} (xs : List ByteArray) : 0 ≤ (match xs.findIdx? p with | some i => (i : Int) | none => -1) ↔ xs.any p = true := by
 cases h : xs.findIdx? p with
 | some i =>
  rw [List.findIdx?_eq_some_iff_getElem] at h
  obtain ⟨h1, h2, _⟩ := h
  simp only [List.any_eq_true]
  exact ⟨fun _ => ⟨_, List.getElem_mem h1, h2⟩, fun _ => by omega⟩
 | none =>
  rw [List.findIdx?_eq_none_iff] at h
  constructor
  ·intro h'
   exact absurd h' (by decide)
  ·intro h'
   rw [List.any_eq_true] at h'
   obtain ⟨x, hx, hp⟩ := h'
   rw [h x hx] at hp
   cases hp
theorem NQ {p : ByteArray → Bool} {xs : List ByteArray} {k : Nat} {x : ByteArray} (hx : xs[k]? = some x) (h : (xs.take k).any p = false) (hp : p x = true) : xs.findIdx? p = some k := by
 obtain ⟨hk, he⟩ := List.getElem?_eq_some_iff.1 hx
 rw [List.findIdx?_eq_some_iff_getElem]
 refine ⟨hk, by rw [he]; exact hp, fun j hj => ?_⟩
 rw [List.any_eq_false] at h
 have := h (xs[j]'(by omega)) (by
  rw [List.mem_take_iff_getElem]
  exact ⟨j, by omega, rfl⟩)
 simpa using this
theorem Pt {p : ByteArray → Bool} {xs : List ByteArray} {k : Nat} {x : ByteArray} (hx : xs[k]? = some x) (h : (xs.take k).any p = false) : (xs.take (k + 1)).any p = p x := by
 rw [Aq hx, List.any_append, h]
 simp
theorem L9 (vs xs : List ByteArray) (hl : xs.length ≤ 9223372036854775807) (b : Nat) (hb : 1000 ≤ b) (S : AA) (sb : S b = some (UB vs)) :
  Am Tryd.prog 44 [Fz xs, .one (.fn 24 [.ptr b 1 0 0])] S (AR (match xs.findIdx? (fun x => !C6 x vs) with | some i => (i : Int) | none => -1)) S := by
 refine Cs.acS fun hS C hC => ?_
 unfold Bo
 repeat' with_reducible first | refine W ?_ | refine Z0 ?_ | ((first | refine Wo fun K hK => ?_ | refine Wp ?_ | refine Wq ?_ | refine Wr ?_); (try simp only [go_sem, fN, seval, eT, iR, dT, dF, nL]); (repeat refine Ai ?_); (try (refine hK _ ?_; clear hK K)); try refine iC ?_)
 refine IWP.loop (fun n s => ∃ k, k ≤ xs.length ∧ n = xs.length - k ∧ (xs.take k).any (fun x => !C6 x vs) = false ∧ s.env 0 = Fz xs ∧ s.env 1 = .one (.fn 24 [.ptr b 1 0 0]) ∧ s.env 7 = AR xs.length ∧ s.env 8 = AR k ∧ s.S = S) xs.length ⟨0, Nat.zero_le _, rfl, rfl, rfl, rfl, rfl, rfl, rfl⟩ ?_
 rintro n ⟨env, S'⟩ ⟨k, hk, rfl, hp, e0, e1, e7, e8, eS⟩
 simp only at e0 e1 e7 e8 eS
 subst eS
 by_cases hlt : (k : Int) < xs.length
 ·obtain ⟨x, hx⟩ := Ao (show k < xs.length by omega)
  have hst := Pt (p := fun x => !C6 x vs) hx hp
  have hc := RL vs x (up1 b) (Ar b) (upS S') (by rw [As, sb]; rfl)
  repeat' with_reducible first | refine W ?_ | refine Z0 ?_ | ((first | refine Wo fun K hK => ?_ | refine Wp ?_ | refine Wq ?_ | refine Wr ?_); (try simp only [go_sem, fN, seval, eT, iR, e0, e1, e7, e8, hlt, hx, dT, dF, nL]); (repeat refine Ai ?_); (try (refine hK _ ?_; clear hK K)); try refine iC ?_)
  first | refine ⟨by kernel_rfl, _, _, hc, ?_⟩ | refine ⟨_, _, hc, ?_⟩
  by_cases hr : (!C6 x vs) = true
  ·have hi := NQ (p := fun x => !C6 x vs) hx hp hr
   repeat' with_reducible first | refine W ?_ | refine Z0 ?_ | ((first | refine Wo fun K hK => ?_ | refine Wp ?_ | refine Wq ?_ | refine Wr ?_); (try simp only [go_sem, fN, seval, eT, iR, e0, e1, e7, e8, hr, dT, dF, nL]); (repeat refine Ai ?_); (try (refine hK _ ?_; clear hK K)); try refine iC ?_)
   refine CD (AR k) hS trivial ?_ ?_ fun j hj => ?_
   ·simp [AB, AD, AI, AH]
   ·rw [hi]
    rfl
   ·rfl
  ·have hr' : (!C6 x vs) = false := by simpa using hr
   repeat' with_reducible first | refine W ?_ | refine Z0 ?_ | ((first | refine Wo fun K hK => ?_ | refine Wp ?_ | refine Wq ?_ | refine Wr ?_); (try simp only [go_sem, fN, seval, eT, iR, e0, e1, e7, e8, hr', dT, dF, nL]); (repeat refine Ai ?_); (try (refine hK _ ?_; clear hK K)); try refine iC ?_)
   refine AG ⟨xs.length - (k + 1), by omega, k + 1, by omega, rfl, ?_⟩
   simp only [go_sem, fN, seval, eT, iR, e0, e1, e7, e8]
   exact ⟨by rw [hst]; exact hr', by congr 3⟩
 ·rw [List.take_of_length_le (by omega)] at hp
  have hi : xs.findIdx? (fun x => !C6 x vs) = none := by
   rw [List.findIdx?_eq_none_iff]
   intro x hx
   rw [List.any_eq_false] at hp
   simpa using hp x hx
  repeat' with_reducible first | refine W ?_ | refine Z0 ?_ | ((first | refine Wo fun K hK => ?_ | refine Wp ?_ | refine Wq ?_ | refine Wr ?_); (try simp only [go_sem, fN, seval, eT, iR, e0, e1, e7, e8, hlt, dT, dF, nL]); (repeat refine Ai ?_); (try (refine hK _ ?_; clear hK K)); try refine iC ?_)
  refine CD (AR (-1)) hS trivial ?_ ?_ fun j hj => ?_
  ·simp [AB, AD, AI, AH]
  ·rw [hi]
   rfl
  ·rfl
theorem H6 (vs xs : List ByteArray) (hl : xs.length ≤ 9223372036854775807) (b : Nat) (hb : 1000 ≤ b) (S : AA) (sb : S b = some (UB vs)) :
  Am Tryd.prog 23 [Fz xs, .one (.fn 24 [.ptr b 1 0 0])] S (Af (xs.any fun x => !C6 x vs)) S := by
 have hi := Sk (p := fun x => !C6 x vs) xs
 generalize (xs.any fun x => !C6 x vs) = bb at hi ⊢
 refine CV.acS fun hS C hC => ?_
 unfold Be
 repeat' with_reducible first | refine W ?_ | refine Z0 ?_ | ((first | refine Wo fun K hK => ?_ | refine Wp ?_ | refine Wq ?_ | refine Wr ?_); (try simp only [go_sem, fN, seval, eT, iR, dT, dF, nL]); (repeat refine Ai ?_); (try (refine hK _ ?_; clear hK K)); try refine iC ?_)
 refine ⟨_, _, L9 vs xs hl (up1 b) (Ar b) (upS S) (by rw [As, sb]; rfl), ?_⟩
 generalize (match xs.findIdx? (fun x => !C6 x vs) with | some i => (i : Int) | none => -1) = q at hi
 repeat' with_reducible first | refine W ?_ | refine Z0 ?_ | ((first | refine Wo fun K hK => ?_ | refine Wp ?_ | refine Wq ?_ | refine Wr ?_); (try simp only [go_sem, fN, seval, eT, iR, hi, dT, dF, nL]); (repeat refine Ai ?_); (try (refine hK _ ?_; clear hK K)); try refine iC ?_)
 refine CD (Af bb) hS trivial ?_ ?_ fun j hj => ?_
 ·simp [AB, AD, AI, AH]
 ·rfl
 ·rfl
theorem Nt (t : Tm) (h : t.size ≤ 200) : t.varsOf.length ≤ 1000 := by
 have h1 := C3 t.knots []
 rw [Tm.knots_length] at h1
 unfold Tm.varsOf
 simp only [List.length_nil] at h1
 omega
theorem Ec (R : List Pr) : Aa Tryd.prog 11 [CG R] (AR (BM R)) := by
 have hm : BM R = if 40 < R.length then 3 else D7 Fn R := rfl
 refine HB.ac fun C hC => ?_
 unfold EU
 by_cases h40 : (40 : Int) < R.length
 ·repeat' with_reducible first | refine W ?_ | refine Z0 ?_ | ((first | refine Wo fun K hK => ?_ | refine Wp ?_ | refine Wq ?_ | refine Wr ?_); (try simp only [go_sem, fN, seval, eT, iR, h40, dT, dF, nL]); (repeat refine Ai ?_); (try (refine hK _ ?_; clear hK K)); try refine iC ?_)
  simp only [go_sem, fN, seval, AO, AS.result, AB, AD, AI]
  rw [hm, if_pos (by omega)]
 rw [if_neg (by omega)] at hm
 repeat' with_reducible first | refine W ?_ | refine Z0 ?_ | ((first | refine Wo fun K hK => ?_ | refine Wp ?_ | refine Wq ?_ | refine Wr ?_); (try simp only [go_sem, fN, seval, eT, iR, h40, dT, dF, nL]); (repeat refine Ai ?_); (try (refine hK _ ?_; clear hK K)); try refine iC ?_)
 refine IWP.loopD [4, 6] (fun m s => ∃ k, k ≤ R.length ∧ m = R.length - k ∧ D7 Fn (R.take k) = 0 ∧ s.env 10 = CG R ∧ s.env 11 = AR R.length ∧ s.env 12 = AR k ∧ s.S 4 = none ∧ s.S 6 = none) R.length ⟨0, Nat.zero_le _, rfl, rfl, rfl, rfl, rfl, rfl, rfl⟩ ?_
 rintro m ⟨env, S⟩ ⟨k, hk, rfl, h0, e10, e11, e12, s4, s6⟩
 simp only at e10 e11 e12 s4 s6
 by_cases hlt : (k : Int) < R.length
 ·obtain ⟨r, hr⟩ := Ao (show k < R.length by omega)
  obtain ⟨g1, g2⟩ := RM hr h0
  have re : Fn r = if Bm r.1 r.2 = 0 then (if AQ r.1.name = true then 2 else if JH r = true then 15 else 0) else Bm r.1 r.2 := rfl
  by_cases hz : Bm r.1 r.2 = 0
  case neg =>
   repeat' (first | (with_reducible first | refine W ?_ | refine Z0 ?_ | ((first | refine Wo fun K hK => ?_ | refine Wp ?_ | refine Wq ?_ | refine Wr ?_); (try simp only [go_sem, fN, seval, eT, iR, e10, e11, e12, s4, s6, hlt, hr, BR, hz, dT, dF, nL]); (repeat refine Ai ?_); (try (refine hK _ ?_; clear hK K)); try refine iC ?_)) | refine Cg _ (OI r.1 r.2) ?_)
   simp only [go_sem, fN, seval, AO, AS.result, AB, AD, AI]
   rw [if_neg hz] at re
   rw [hm, g2 (by rw [re]; exact hz), re]
  case pos =>
  rw [if_pos hz] at re
  by_cases hv : AQ r.1.name = true
  ·repeat' (first | (with_reducible first | refine W ?_ | refine Z0 ?_ | ((first | refine Wo fun K hK => ?_ | refine Wp ?_ | refine Wq ?_ | refine Wr ?_); (try simp only [go_sem, fN, seval, eT, iR, e10, e11, e12, s4, s6, hlt, hr, BR, hz, hv, dT, dF, nL]); (repeat refine Ai ?_); (try (refine hK _ ?_; clear hK K)); try refine iC ?_)) | refine Cg _ (OI r.1 r.2) ?_ | refine Cg _ (Aj r.1.name) ?_)
   simp only [go_sem, fN, seval, AO, AS.result, AB, AD, AI]
   rw [if_pos hv] at re
   rw [hm, g2 (by rw [re]; decide), re]
  rw [if_neg hv] at re
  have m12 : r.1.may = 0 ∧ r.2.may = 0 := by
   unfold Bm at hz
   by_cases h4 : r.1.may = 0
   ·rw [if_pos h4] at hz; exact ⟨h4, hz⟩
   ·rw [if_neg h4] at hz; exact absurd hz h4
  have z1 := (Tm.may_chk m12.1).2
  have z2 := (Tm.may_chk m12.2).2
  have l2 := Nt r.2 z2
  repeat' (first | (with_reducible first | refine W ?_ | refine Z0 ?_ | ((first | refine Wo fun K hK => ?_ | refine Wp ?_ | refine Wq ?_ | refine Wr ?_); (try simp only [go_sem, fN, seval, eT, iR, e10, e11, e12, s4, s6, hlt, hr, BR, hz, hv, dT, dF, nL]); (repeat refine Ai ?_); (try (refine hK _ ?_; clear hK K)); try refine iC ?_)) | refine Cg _ (OI r.1 r.2) ?_ | refine Cg _ (Aj r.1.name) ?_ | refine Cg _ (OS r.1 (by omega)) ?_ | refine Cg _ (OS r.2 (by omega)) ?_)
  refine ⟨_, _, H6 r.1.varsOf r.2.varsOf (by omega) (up1 6) (Ar 6) _ (by rw [As]; simp [AH]; rfl), ?_⟩
  have ho : JH r = r.2.varsOf.any fun v => !C6 v r.1.varsOf := rfl
  rw [← ho]
  by_cases hop : JH r = true
  ·repeat' with_reducible first | refine W ?_ | refine Z0 ?_ | ((first | refine Wo fun K hK => ?_ | refine Wp ?_ | refine Wq ?_ | refine Wr ?_); (try simp only [go_sem, fN, seval, eT, iR, hop, dT, dF, nL]); (repeat refine Ai ?_); (try (refine hK _ ?_; clear hK K)); try refine iC ?_)
   simp only [go_sem, fN, seval, AO, AS.result, AB, AD, AI]
   rw [if_pos hop] at re
   rw [hm, g2 (by rw [re]; decide), re]
  ·rw [if_neg hop] at re
   simp only [Bool.not_eq_true] at hop
   repeat' with_reducible first | refine W ?_ | refine Z0 ?_ | ((first | refine Wo fun K hK => ?_ | refine Wp ?_ | refine Wq ?_ | refine Wr ?_); (try simp only [go_sem, fN, seval, eT, iR, hop, e10, e11, e12, dT, dF, nL]); (repeat refine Ai ?_); (try (refine hK _ ?_; clear hK K)); try refine iC ?_)
   refine AG ⟨R.length - (k + 1), by omega, k + 1, by omega, rfl, g1 re, ?_⟩
   simp only [go_sem, fN, seval, AS.drop, Ap, AC.clears, AC.clear, AC.highs, AC.high, Bool.not_false, Bool.true_and, Bool.and_self, AV.purge, AV.purges, AC.purge, AJ.purge, List.contains_cons, List.contains_nil, Nat.reduceBEq, Bool.or_self, Bool.or_false, Bool.false_or, Bool.or_true, eT, iR, e10, e11, e12, s4, s6]
   congr 3
 ·repeat' with_reducible first | refine W ?_ | refine Z0 ?_ | ((first | refine Wo fun K hK => ?_ | refine Wp ?_ | refine Wq ?_ | refine Wr ?_); (try simp only [go_sem, fN, seval, eT, iR, e10, e11, e12, hlt, dT, dF, nL]); (repeat refine Ai ?_); (try (refine hK _ ?_; clear hK K)); try refine iC ?_)
  simp only [go_sem, fN, seval, AO, AS.result, AB, AD, AI]
  rw [List.take_of_length_le (by omega)] at h0
  rw [hm, h0]
theorem Ff (R : List Pr) (t : Tm) : Aa Tryd.prog 14 [CG R, aTm t] (AR (Gn R t)) := by
 have hm : Gn R t = if BM R = 0 then t.may else BM R := rfl
 refine II.ac fun C hC => ?_
 unfold Es
 by_cases h : BM R = 0
 ·rw [if_pos h] at hm
  repeat' (first | (with_reducible first | refine W ?_ | refine Z0 ?_ | ((first | refine Wo fun K hK => ?_ | refine Wp ?_ | refine Wq ?_ | refine Wr ?_); (try simp only [go_sem, fN, seval, eT, iR, h, dT, dF, nL]); (repeat refine Ai ?_); (try (refine hK _ ?_; clear hK K)); try refine iC ?_)) | refine Cg _ (Ec R) ?_ | refine Cg _ (Cv t) ?_)
  simp only [go_sem, fN, seval, AO, AS.result, AB, AD, AI]
  rw [hm]
 ·rw [if_neg h] at hm
  repeat' (first | (with_reducible first | refine W ?_ | refine Z0 ?_ | ((first | refine Wo fun K hK => ?_ | refine Wp ?_ | refine Wq ?_ | refine Wr ?_); (try simp only [go_sem, fN, seval, eT, iR, h, dT, dF, nL]); (repeat refine Ai ?_); (try (refine hK _ ?_; clear hK K)); try refine iC ?_)) | refine Cg _ (Ec R) ?_ | refine Cg _ (Cv t) ?_)
  simp only [go_sem, fN, seval, AO, AS.result, AB, AD, AI]
  rw [hm]
def Bw (m : Int) : Int := if m < 0 ∨ 400 < m then 10 else 0
theorem RR (m : Int) : Aa Tryd.prog 16 [AR m] (AR (Bw m)) := by
 have hm : Bw m = if m < 0 ∨ 400 < m then 10 else 0 := rfl
 refine IB.ac fun C hC => ?_
 unfold Eu
 by_cases h1 : m < 0
 ·repeat' with_reducible first | refine W ?_ | refine Z0 ?_ | ((first | refine Wo fun K hK => ?_ | refine Wp ?_ | refine Wq ?_ | refine Wr ?_); (try simp only [go_sem, fN, seval, eT, iR, h1, dT, dF, nL]); (repeat refine Ai ?_); (try (refine hK _ ?_; clear hK K)); try refine iC ?_)
  simp only [go_sem, fN, seval, AO, AS.result, AB, AD, AI]
  rw [hm, if_pos (.inl h1)]
 ·by_cases h2 : 400 < m
  ·repeat' with_reducible first | refine W ?_ | refine Z0 ?_ | ((first | refine Wo fun K hK => ?_ | refine Wp ?_ | refine Wq ?_ | refine Wr ?_); (try simp only [go_sem, fN, seval, eT, iR, h1, h2, dT, dF, nL]); (repeat refine Ai ?_); (try (refine hK _ ?_; clear hK K)); try refine iC ?_)
   simp only [go_sem, fN, seval, AO, AS.result, AB, AD, AI]
   rw [hm, if_pos (.inr h2)]
  ·repeat' with_reducible first | refine W ?_ | refine Z0 ?_ | ((first | refine Wo fun K hK => ?_ | refine Wp ?_ | refine Wq ?_ | refine Wr ?_); (try simp only [go_sem, fN, seval, eT, iR, h1, h2, dT, dF, nL]); (repeat refine Ai ?_); (try (refine hK _ ?_; clear hK K)); try refine iC ?_)
   simp only [go_sem, fN, seval, AO, AS.result, AB, AD, AI]
   rw [hm, if_neg (by omega)]

set_option maxRecDepth 100000
def Aw : IR :=
 (.seq (.ops [.i 2 (.mov (.c (.one (.full []))))]) (.seq (.seq (.ops [.m 3 0, .i 4 (.eqN false (.t 3))]) (.cond (.t 4) (.seq (.ops [.i 2 (.mov (.c (.one (.full []))))]) .ret) .skip)) (.seq (.ops [.i 5 (.buildSlice false 32 2 []), .m 6 0, .i 7 (.append true 32 2 40 (.t 5) (.t 6)), .m 2 7]) .ret)))
theorem Bf : OkF Tryd.prog 64 8 [7] Aw [.t 2] := .of Tryd.func64 rfl rfl (by kernel_rfl) rfl

def F0 : IR :=
 (.seq (.ops [.i 3 (.box 32 (.t 0)), .i 4 (.box 32 (.t 1)), .i 6 (.mov (.c (.one (.st (.bool false)))))]) (.seq (.seq (.ops [.f 10 0 3, .l 11 10, .i 12 (.call 21 [.t 11])]) (.cond (.t 12) (.seq (.seq (.ops [.m 14 2, .f 15 0 3, .l 16 15, .i 17 (.lookup none true (.agg [.st (.str (ByteArray.mk (#[]))), .full []]) (.t 14) (.t 16)), .m 13 17, .i 18 (.extract 0 (.t 13)), .i 19 (.extract 1 (.t 13)), .i 7 (.alloc 32 [.st (.str (ByteArray.mk (#[]))), .full []]), .s 2 7 18, .m 8 19]) (.seq (.ops [.m 20 8]) (.cond (.t 20) (.seq (.ops [.L 21 2 7, .L 22 2 4, .i 23 (.call 34 [.t 21, .t 22]), .m 6 23]) .ret) .skip))) (.seq (.ops [.m 24 2, .f 25 0 3, .l 26 25, .L 27 2 4, .mk none none (.mapSet none (.t 24) (.t 26) (.t 27)) .no]) (.seq (.ops [.i 6 (.mov (.c (.one (.st (.bool true)))))]) .ret))) .skip)) (.seq (.seq (.ops [.f 28 0 3, .l 29 28, .f 30 0 4, .l 31 30, .i 32 (.bin .neq (.t 29) (.t 31)), .m 33 32, .mk (some 34) (some (33, false)) (.fieldAddr 1 (.t 3)) .no, .mk (some 35) (some (33, false)) (.load false 1 (.t 34)) .no, .mk (some 36) (some (33, false)) (.len false (.t 35)) .no, .mk (some 37) (some (33, false)) (.fieldAddr 1 (.t 4)) .no, .mk (some 38) (some (33, false)) (.load false 1 (.t 37)) .no, .mk (some 39) (some (33, false)) (.len false (.t 38)) .no, .mk (some 40) (some (33, false)) (.bin .neq (.t 36) (.t 39)) .no, .i 41 (.pick (.t 33) (.c (.one (.st (.bool true)))) (.t 40))]) (.cond (.t 41) (.seq (.ops [.i 6 (.mov (.c (.one (.st (.bool false)))))]) .ret) .skip)) (.seq (.seq (.ops [.f 42 1 3, .l 43 42, .i 44 (.len false (.t 43)), .i 45 (.mov (.n 0))]) (.block 0 (.loop (.seq (.ops [.i 46 (.bin .lss (.t 45) (.t 44))]) (.seq (.cond (.t 46) .skip (.exit 0)) (.seq (.block 1 (.seq (.ops [.m 47 45, .m 9 47]) (.seq (.ops [.f 48 1 3, .l 49 48, .m 50 9, .i 51 (.indexAddr 2 (.t 49) (.t 50)), .L 52 2 51, .f 53 1 4, .l 54 53, .m 55 9, .i 56 (.indexAddr 2 (.t 54) (.t 55)), .L 57 2 56, .m 58 2, .i 59 (.callS 88 [.t 52, .t 57, .t 58]), .i 60 (.un .not (.t 59))]) (.cond (.t 60) (.seq (.ops [.i 6 (.mov (.c (.one (.st (.bool false)))))]) .ret) .skip)))) (.ops [.i 61 (.bin .add (.t 45) (.n 1)), .m 45 61]))))))) (.seq (.ops [.i 6 (.mov (.c (.one (.st (.bool true)))))]) .ret)))))
theorem KE : OkF Tryd.prog 88 62 [59] F0 [.t 6] := .of Tryd.func88 rfl rfl (by kernel_rfl) rfl
def GB : IR :=
 (.seq (.ops [.i 2 (.box 32 (.t 0)), .i 3 (.box 32 (.t 1)), .i 4 (.mov (.c (.one (.full [])))), .i 5 (.mov (.c (.one (.st (.bool false)))))]) (.seq (.ops [.i 10 (.makeMap none), .m 6 10]) (.seq (.seq (.ops [.L 11 2 2, .L 12 2 3, .m 13 6, .i 14 (.callS 88 [.t 11, .t 12, .t 13]), .i 15 (.un .not (.t 14))]) (.cond (.t 15) (.seq (.ops [.i 4 (.mov (.c (.one (.full [])))), .i 5 (.mov (.c (.one (.st (.bool false)))))]) .ret) .skip)) (.seq (.ops [.i 7 (.mov (.c (.one (.full []))))]) (.seq (.seq (.ops [.m 16 6, .i 17 (.rangeM (.t 16))]) (.block 0 (.loop (.seq (.ops [.i 18 (.next (.t 17)), .i 19 (.extract 0 (.t 18))]) (.seq (.cond (.t 19) .skip (.exit 0)) (.block 1 (.seq (.ops [.i 20 (.entry (.t 17)), .i 21 (.extract 0 (.t 20)), .i 22 (.extract 1 (.t 20)), .i 9 (.alloc 32 [.st (.str (ByteArray.mk (#[]))), .full []]), .m 8 21, .s 2 9 22]) (.ops [.m 23 7, .m 24 8, .L 25 2 9, .i 26 (.call 50 [.t 25]), .i 27 (.build [.st (.str (ByteArray.mk (#[]))), .st (.str (ByteArray.mk (#[]))), .full []] [(0, 1, .t 24), (1, 2, .t 26)]), .i 28 (.buildSlice false 51 3 [.t 27]), .i 29 (.append true 51 3 56 (.t 23) (.t 28)), .m 7 29])))))))) (.seq (.ops [.m 30 7, .i 31 (.callS 47 [.t 30]), .m 4 31, .i 5 (.mov (.c (.one (.st (.bool true)))))]) .ret))))))
theorem J2 : OkF Tryd.prog 73 32 [14, 29, 31] GB [.t 4, .t 5] := .of Tryd.func73 rfl rfl (by kernel_rfl) rfl

def met {α : Type} (l : List α) (seen : List Nat) : List α := seen.filterMap fun j => l[j]?
theorem RI {α : Type} {l : List α} {seen : List Nat} {j : Nat} {b : α} (h : l[j]? = some b) : met l (seen ++ [j]) = met l seen ++ [b] := by
 unfold met
 rw [List.filterMap_append, List.filterMap_cons_some h]
 rfl
theorem O7 {α : Type} {l : List α} : ∀ {seen : List Nat}, (∀ j ∈ seen, j < l.length) → (met l seen).length = seen.length
 | [], _ => rfl
 | j :: seen, h => by
  have hj := h j (by simp)
  unfold met
  rw [List.filterMap_cons_some (List.getElem?_eq_getElem hj), List.length_cons, List.length_cons]
  exact congrArg (· + 1) (O7 fun i hi => h i (by simp [hi]))
theorem Mf {n : Nat} {seen : List Nat} (hn : seen.Nodup) (h : ∀ j ∈ seen, j < n) : seen.length ≤ n := by
 have h1 : seen.Perm ((List.range n).filter fun j => decide (j ∈ seen)) := (List.perm_ext_iff_of_nodup hn (List.nodup_range.filter _)).2 fun j => by
  rw [List.mem_filter, List.mem_range, decide_eq_true_eq]
  exact ⟨fun hj => ⟨h j hj, hj⟩, fun hj => hj.2⟩
 rw [h1.length_eq]
 exact Nat.le_trans (List.length_filter_le _ _) (Nat.le_of_eq List.length_range)
theorem RE {α : Type} {l : List α} {seen : List Nat} (hn : seen.Nodup) (h : ∀ j ∈ seen, j < l.length) (hall : ∀ j, j < l.length → j ∈ seen) : (met l seen).Perm l := by
 have hp : seen.Perm (List.range l.length) := (List.perm_ext_iff_of_nodup hn List.nodup_range).2 fun j => ⟨fun hj => List.mem_range.2 (h j hj), fun hj => hall j (List.mem_range.1 hj)⟩
 have := hp.filterMap fun j => l[j]?
 rw [DS] at this
 exact this

def OZ (b : Bd) : KV × AV := (.s b.1, aTm b.2)
abbrev QD (l : List Bd) : AJ := .map none (l.map OZ)
theorem HF (l : List Bd) (n : ByteArray) : DT (l.map OZ) (.s n) = (lookup l n).map fun t => aTm t := by
 induction l with
 | nil => rfl
 | cons b l ih =>
  unfold lookup
  rw [List.map_cons, DT, List.find?_cons]
  by_cases h : b.1 = n
  ·have h1 : decide (b.1 = n) = true := decide_eq_true h
   rw [if_pos (show (OZ b).1 = KV.s n from congrArg KV.s h)]
   simp only [h1]
   rfl
  ·have h1 : decide (b.1 = n) = false := decide_eq_false h
   rw [if_neg (show ¬ (OZ b).1 = KV.s n from fun e => h (KV.s.inj e)), ih]
   simp only [h1]
   rfl
theorem P_ {l : List Bd} {n : ByteArray} (h : lookup l n = none) (t : Tm) : IA (l.map OZ) (.s n) (aTm t) = (l ++ [(n, t)]).map OZ := by
 rw [Kr (by rw [HF, h]; rfl), List.map_append]
 rfl
theorem UW (p : Tm) (hz : p.size ≤ 1000000) : ∀ (t : Tm) (a0 : Nat) (l : List Bd) (S : AA), 1000 ≤ a0 → S a0 = some (QD l) →
  Am Tryd.prog 88 [aTm p, aTm t, .one (.mptr a0)] S (Af (p.mt t l).2) (AH S a0 (some (QD (p.mt t l).1))) := by
 induction h : SizeOf.sizeOf p using Nat.strongRecOn generalizing p with
 | _ N ih =>
 subst h
 intro t a0 l S ha0 hSa
 have hs := Tm.size_eq p
 have hln := Tm.length_le p.args
 refine KE.acS fun hS C hC => ?_
 have n3 : S 3 = none := AM hS (by omega)
 have n4 : S 4 = none := AM hS (by omega)
 have n7 : S 7 = none := AM hS (by omega)
 have d3 : ¬ 3 = a0 := by omega
 have d4 : ¬ 4 = a0 := by omega
 have d7 : ¬ 7 = a0 := by omega
 have e3 : ¬ a0 = 3 := by omega
 have e4 : ¬ a0 = 4 := by omega
 have e7 : ¬ a0 = 7 := by omega
 unfold F0
 repeat' with_reducible first | refine W ?_ | refine Z0 ?_ | ((first | refine Wo fun K hK => ?_ | refine Wp ?_ | refine Wq ?_ | refine Wr ?_); (try simp only [go_sem, fN, seval, eT, iR, n3, n4, dT, dF, nL]); (repeat refine Ai ?_); (try (refine hK _ ?_; clear hK K)); try refine iC ?_)
 refine ⟨_, Aj _, ?_⟩
 cases hv : AQ p.name with
 | true =>
  cases hl : lookup l p.name with
  | some x =>
   repeat' (first | (with_reducible first | refine W ?_ | refine Z0 ?_ | ((first | refine Wo fun K hK => ?_ | refine Wp ?_ | refine Wq ?_ | refine Wr ?_); (try simp only [go_sem, fN, seval, eT, iR, hv, hSa, n3, n4, n7, d3, d4, d7, e3, e4, e7, Cz, Gy, KV.of, Hq, HF, hl, dT, dF, nL]); (repeat refine Ai ?_); (try (refine hK _ ?_; clear hK K)); try refine iC ?_)) | refine Cg _ (SG _ _) ?_)
   rw [Tm.mt_old hv hl]
   refine BV (Af (x.beq t)) hS ha0 rfl trivial rfl rfl (by simp only [go_sem, fN, seval, eT, iR, e3, e4, e7, hSa]) fun i hi hne => ?_
   have i3 : ¬ i = 3 := by omega
   have i4 : ¬ i = 4 := by omega
   have i7 : ¬ i = 7 := by omega
   simp only [go_sem, fN, seval, eT, iR, i3, i4, i7]
  | none =>
   repeat' with_reducible first | refine W ?_ | refine Z0 ?_ | ((first | refine Wo fun K hK => ?_ | refine Wp ?_ | refine Wq ?_ | refine Wr ?_); (try simp only [go_sem, fN, seval, eT, iR, hv, hSa, n3, n4, n7, d3, d4, d7, e3, e4, e7, Cz, Gy, KV.of, Hq, HF, hl, P_, dT, dF, nL]); (repeat refine Ai ?_); (try (refine hK _ ?_; clear hK K)); try refine iC ?_)
   rw [Tm.mt_new hv hl]
   refine BV (Af true) hS ha0 rfl trivial rfl rfl (by simp only [go_sem, fN, seval, eT, iR, e3, e4, e7, hSa]) fun i hi hne => ?_
   have i3 : ¬ i = 3 := by omega
   have i4 : ¬ i = 4 := by omega
   have i7 : ¬ i = 7 := by omega
   simp only [go_sem, fN, seval, eT, iR, i3, i4, i7, hne]
 | false =>
  by_cases hn : p.name = t.name
  case neg =>
   have hc : ¬ (p.name = t.name ∧ p.args.length = t.args.length) := fun h => hn h.1
   repeat' with_reducible first | refine W ?_ | refine Z0 ?_ | ((first | refine Wo fun K hK => ?_ | refine Wp ?_ | refine Wq ?_ | refine Wr ?_); (try simp only [go_sem, fN, seval, eT, iR, hv, hSa, n3, n4, n7, d3, d4, d7, e3, e4, e7, hn, dT, dF, nL]); (repeat refine Ai ?_); (try (refine hK _ ?_; clear hK K)); try refine iC ?_)
   rw [Tm.mt_clash hv hc]
   refine BV (Af false) hS ha0 rfl trivial rfl rfl (by simp only [go_sem, fN, seval, eT, iR, e3, e4, hSa]) fun i hi hne => ?_
   have i3 : ¬ i = 3 := by omega
   have i4 : ¬ i = 4 := by omega
   simp only [go_sem, fN, seval, eT, iR, i3, i4]
  by_cases hlen : p.args.length = t.args.length
  case neg =>
   have hc : ¬ (p.name = t.name ∧ p.args.length = t.args.length) := fun h => hlen h.2
   have hlen' : ¬ (p.args.length : Int) = t.args.length := by omega
   repeat' with_reducible first | refine W ?_ | refine Z0 ?_ | ((first | refine Wo fun K hK => ?_ | refine Wp ?_ | refine Wq ?_ | refine Wr ?_); (try simp only [go_sem, fN, seval, eT, iR, hv, hSa, n3, n4, n7, d3, d4, d7, e3, e4, e7, hn, hlen', dT, dF, nL]); (repeat refine Ai ?_); (try (refine hK _ ?_; clear hK K)); try refine iC ?_)
   rw [Tm.mt_clash hv hc]
   refine BV (Af false) hS ha0 rfl trivial rfl rfl (by simp only [go_sem, fN, seval, eT, iR, e3, e4, hSa]) fun i hi hne => ?_
   have i3 : ¬ i = 3 := by omega
   have i4 : ¬ i = 4 := by omega
   simp only [go_sem, fN, seval, eT, iR, i3, i4]
  have hlen' : (p.args.length : Int) = t.args.length := by omega
  have hknot : p.mt t l = Tm.mtL p.args t.args l := Tm.mt_knot hv hn hlen
  repeat' with_reducible first | refine W ?_ | refine Z0 ?_ | ((first | refine Wo fun K hK => ?_ | refine Wp ?_ | refine Wq ?_ | refine Wr ?_); (try simp only [go_sem, fN, seval, eT, iR, hv, hSa, n3, n4, n7, d3, d4, d7, e3, e4, e7, hn, hlen', dT, dF, nL]); (repeat refine Ai ?_); (try (refine hK _ ?_; clear hK K)); try refine iC ?_)
  refine IWP.loop (fun m x => ∃ k, k ≤ p.args.length ∧ m = p.args.length - k ∧ (Tm.mtL (p.args.take k) (t.args.take k) l).2 = true ∧ x.env 2 = .one (.mptr a0) ∧ x.env 3 = .one (.ptr 3 1 0 0) ∧ x.env 4 = .one (.ptr 4 1 0 0) ∧ x.env 44 = AR p.args.length ∧ x.env 45 = AR k ∧
    x.S 3 = some (.box 32 [.st (.str t.name), .st (.list (p.args.map Ay))]) ∧ x.S 4 = some (.box 32 [.st (.str t.name), .st (.list (t.args.map Ay))]) ∧ x.S a0 = some (QD (Tm.mtL (p.args.take k) (t.args.take k) l).1) ∧ ∀ i, 1000 ≤ i → i ≠ a0 → x.S i = S i)
   p.args.length ⟨0, Nat.zero_le _, rfl, by simp [Tm.mtL], rfl, rfl, rfl, by simp only [go_sem, fN, seval, eT, iR, hlen'], rfl, by simp only [go_sem, fN, seval, eT, iR, hn], rfl, by (simp only [go_sem, fN, seval, eT, iR, e3, e4, hSa]); simp [Tm.mtL], fun i hi hne => ?_⟩ ?_
  ·have i3 : ¬ i = 3 := by omega
   have i4 : ¬ i = 4 := by omega
   simp only [go_sem, fN, seval, eT, iR, i3, i4]
  rintro m ⟨env, S1⟩ ⟨k, hk, rfl, hok, e2, e3', e4', e44, e45, s3, s4, sa, hrest⟩
  simp only at e2 e3' e4' e44 e45 s3 s4 sa hrest
  have hend : ∀ (b : Bool) (r : List Bd) (env : Nat → AV) (S2 : AA), env 6 = Af b → S2 a0 = some (QD r) → (∀ i, 1000 ≤ i → i ≠ a0 → S2 i = S i) → IC C [.t 6] (Af b) (AH S a0 (some (QD r))) .ret ⟨env, S2⟩ := fun b r env S2 h6 h1 h2 =>
   BV (Af b) hS ha0 rfl trivial (by simp only [AB, AD, AI, h6, Option.map_some]) rfl h1 h2
  by_cases hlt : (k : Int) < p.args.length
  ·obtain ⟨a, ha⟩ := Ao (show k < p.args.length by omega)
   obtain ⟨c, hc⟩ := Ao (show k < t.args.length by omega)
   have hstep := Tm.mtL_take hlen ha hc hok
   repeat' with_reducible first | refine W ?_ | refine Z0 ?_ | ((first | refine Wo fun K hK => ?_ | refine Wp ?_ | refine Wq ?_ | refine Wr ?_); (try simp only [go_sem, fN, seval, eT, iR, e2, e3', e4', e44, e45, s3, s4, sa, hlt, ha, hc, dT, dF, nL]); (repeat refine Ai ?_); (try (refine hK _ ?_; clear hK K)); try refine iC ?_)
   refine ⟨_, _, ih _ (Tm.lt_of_arg (AW ha)) a (by have := Tm.size_mem (AW ha); omega) rfl c (up1 a0) (Tm.mtL (p.args.take k) (t.args.take k) l).1 (upS S1) (Ar a0) (by rw [As, sa]; rfl), ?_⟩
   rw [← hstep]
   cases hb : (Tm.mtL (p.args.take (k + 1)) (t.args.take (k + 1)) l).2 with
   | true =>
    repeat' with_reducible first | refine W ?_ | refine Z0 ?_ | ((first | refine Wo fun K hK => ?_ | refine Wp ?_ | refine Wq ?_ | refine Wr ?_); (try simp only [go_sem, fN, seval, eT, iR, hb, e2, e3', e4', e44, e45, s3, s4, dT, dF, nL]); (repeat refine Ai ?_); (try (refine hK _ ?_; clear hK K)); try refine iC ?_)
    refine AG ⟨p.args.length - (k + 1), by omega, k + 1, by omega, rfl, hb, ?_⟩
    simp only [go_sem, fN, seval, eT, iR, e2, e3', e4', e44, s3, s4, d3, d4]
    refine ⟨by congr 3, fun i hi hne => ?_⟩
    simp only [go_sem, fN, seval, eT, iR, hne]
    exact hrest i hi hne
   | false =>
    have hno := Tm.mtL_no hlen hb
    repeat' with_reducible first | refine W ?_ | refine Z0 ?_ | ((first | refine Wo fun K hK => ?_ | refine Wp ?_ | refine Wq ?_ | refine Wr ?_); (try simp only [go_sem, fN, seval, eT, iR, hb, e2, e3', e4', e44, e45, s3, s4, dT, dF, nL]); (repeat refine Ai ?_); (try (refine hK _ ?_; clear hK K)); try refine iC ?_)
    rw [hknot, hno]
    refine hend false _ _ _ rfl (by simp only [go_sem, fN, seval, eT, iR]) fun i hi hne => ?_
    simp only [go_sem, fN, seval, eT, iR, hne]
    exact hrest i hi hne
  ·rw [List.take_of_length_le (by omega), List.take_of_length_le (by omega)] at hok sa
   repeat' with_reducible first | refine W ?_ | refine Z0 ?_ | ((first | refine Wo fun K hK => ?_ | refine Wp ?_ | refine Wq ?_ | refine Wr ?_); (try simp only [go_sem, fN, seval, eT, iR, e44, e45, hlt, dT, dF, nL]); (repeat refine Ai ?_); (try (refine hK _ ?_; clear hK K)); try refine iC ?_)
   rw [hknot, hok]
   exact hend true _ _ _ rfl sa hrest
theorem KB {l m : List Bd} (h : l.Perm m) (hn : Ba m) : BQ l = BQ m :=
 Dq (Bh (Dm h.symm hn)) (Bh hn) ((CI l).trans (h.trans (CI m).symm))
theorem OX (p t : Tm) (hp : p.size ≤ 100000) (ht : t.size ≤ 1000000) : Aa Tryd.prog 73 [aTm p, aTm t] (.tup [Nn (CM p t), Af (GH p t)]) := by
 have hnm := MW p t
 have hml := RU p t
 have hms := TI p t
 refine J2.ac fun C hC => ?_
 unfold GB
 repeat' with_reducible first | refine W ?_ | refine Z0 ?_ | ((first | refine Wo fun K hK => ?_ | refine Wp ?_ | refine Wq ?_ | refine Wr ?_); (try simp only [go_sem, fN, seval, eT, iR, dT, dF, nL]); (repeat refine Ai ?_); (try (refine hK _ ?_; clear hK K)); try refine iC ?_)
 refine ⟨_, _, UW p (by omega) t (up1 10) [] _ (Ar 10) (by rw [As]; rfl), ?_⟩
 cases hc : (p.mt t []).2 with
 | false =>
  repeat' with_reducible first | refine W ?_ | refine Z0 ?_ | ((first | refine Wo fun K hK => ?_ | refine Wp ?_ | refine Wq ?_ | refine Wr ?_); (try simp only [go_sem, fN, seval, eT, iR, hc, dT, dF, nL]); (repeat refine Ai ?_); (try (refine hK _ ?_; clear hK K)); try refine iC ?_)
  simp only [go_sem, fN, seval, AO, AS.result, AB, AD, AI]
  unfold CM GH
  rw [hc]
  rfl
 | true =>
  have hca : CM p t = BQ (p.mt t []).1 := by unfold CM; rw [if_pos hc]
  have his : GH p t = true := hc
  repeat' with_reducible first | refine W ?_ | refine Z0 ?_ | ((first | refine Wo fun K hK => ?_ | refine Wp ?_ | refine Wq ?_ | refine Wr ?_); (try simp only [go_sem, fN, seval, eT, iR, hc, Cz, dT, dF, nL]); (repeat refine Ai ?_); (try (refine hK _ ?_; clear hK K)); try refine iC ?_)
  rw [hca, his]
  generalize (p.mt t []).1 = l at *
  refine IWP.ghost (Ae.ownM 7 500 51 3 (by rfl) (by rfl) (by rw [hC]; decide)) ?_
  refine IWP.loopD [9] (fun m x => ∃ seen : List Nat, seen.Nodup ∧ (∀ j ∈ seen, j < l.length) ∧ m = l.length - seen.length ∧ x.env 7 = .one (.row 500 seen.length) ∧ x.env 17 = .one (.ptr 17 1 0 0) ∧ x.S 10 = some (QD l) ∧ x.S 17 = some (.iter (.mptr 10) l.length seen) ∧ x.S 500 = some (BL (met l seen)) ∧ x.S 9 = none) l.length ⟨[], List.nodup_nil, by simp, rfl, rfl, rfl, by simp only [go_sem, fN, seval, eT, iR], by simp only [go_sem, fN, seval, eT, iR], rfl, rfl⟩ ?_
  rintro m ⟨env, S⟩ ⟨seen, hnd, hlt, rfl, e7, e17, s10, s17, s500, s9⟩
  simp only at e7 e17 s10 s17 s500 s9
  have hsl := Mf hnd hlt
  have hmt := O7 hlt
  repeat' with_reducible first | refine W ?_ | refine Z0 ?_ | ((first | refine Wo fun K hK => ?_ | refine Wp ?_ | refine Wq ?_ | refine Wr ?_); (try simp only [go_sem, fN, seval, eT, iR, e7, e17, s10, s17, D6, dT, dF, nL]); (repeat refine Ai ?_); (try (refine hK _ ?_; clear hK K)); try refine iC ?_)
  refine ⟨fun hall => ?_, fun j x c hx hj hkv => ?_⟩
  ·have hmp := RE hnd hlt hall
   have hl' : seen.length = l.length := by rw [← hmt]; exact hmp.length_eq
   refine hK _ ?_
   clear hK K
   refine Wb ?_
   refine Wa ?_
   with_reducible refine Wp ?_
   simp only [go_sem, fN, seval, true_implies, false_implies, implies_true, dT, dF, nL]
   (try with_reducible refine iC ?_)
   repeat' (with_reducible first | refine Wb ?_ | refine Wc ?_ | refine Wd ?_ | refine We ?_ | refine Wg ?_ | refine Wh ?_ | refine Wi ?_ | refine Wj ?_ | refine Wk (by decide) ?_ | refine Wl ?_ | refine Wm ?_ | refine Wn ?_)
   refine IWP.mid (fun x => x.env 4 = .one (.row 500 l.length) ∧ x.env 5 = Af true ∧ x.S 500 = some (BL (BQ l))) ?_ ?_
   ·have hs := Nm (met l seen) (Dm hmp.symm hnm) (by omega) (up1 500) (Ar 500) (upS S) (by rw [As, s500]; rfl)
    rw [hmt, hl', KB hmp hnm] at hs
    rw [hl'] at e7
    repeat' with_reducible first | refine W ?_ | refine Z0 ?_ | ((first | refine Wo fun K hK => ?_ | refine Wq ?_ | refine Wr ?_); (try simp only [go_sem, fN, seval, eT, iR, e7]); (repeat refine Ai ?_); (try (refine hK _ ?_; clear hK K)))
    refine ⟨_, _, hs, ?_⟩
    repeat' with_reducible first | refine W ?_ | refine Z0 ?_ | ((first | refine Wo fun K hK => ?_ | refine Wq ?_ | refine Wr ?_); (try simp only [go_sem, fN, seval, eT, iR, e7]); (repeat refine Ai ?_); (try (refine hK _ ?_; clear hK K)))
    refine ⟨rfl, ?_⟩
    simp only [go_sem, fN, seval, eT, iR]
   rintro ⟨env, S⟩ ⟨e4, e5, s500⟩
   simp only at e4 e5 s500
   refine IWP.ghost (Ae.share (id := 500) s500) ?_
   repeat' with_reducible first | refine W ?_ | refine Z0 ?_ | ((first | refine Wo fun K hK => ?_ | refine Wq ?_ | refine Wr ?_); (try simp only [go_sem, fN, seval, eT, iR]); (repeat refine Ai ?_); (try (refine hK _ ?_; clear hK K)))
   simp only [go_sem, fN, seval, AO, AS.result, AB, AD, AI, e4, e5, BS]
  ·rw [Option.map_eq_some_iff] at hx
   obtain ⟨b, hb, rfl⟩ := hx
   have hbz := hms b (AW hb)
   have hjl : j < l.length := by
    rcases Nat.lt_or_ge j l.length with h | h
    ·exact h
    ·rw [List.getElem?_eq_none h] at hb; cases hb
   have hcv : c = .str b.1 := by
    have : some (SV.str b.1) = some c := hkv
    cases this
    rfl
   subst hcv
   have hnd' : (seen ++ [j]).Nodup := by
    rw [List.nodup_append]
    exact ⟨hnd, by simp, fun a ha b hb e => hj (by rw [List.mem_singleton.1 hb] at e; rw [← e]; exact ha)⟩
   have hlt' : ∀ i ∈ seen ++ [j], i < l.length := fun i hi => by
    rcases List.mem_append.1 hi with h | h
    ·exact hlt i h
    ·rw [List.mem_singleton.1 h]; exact hjl
   have hsl' := Mf hnd' hlt'
   rw [List.length_append, List.length_singleton] at hsl'
   refine hK _ ?_
   clear hK K
   refine Wb ?_
   repeat' (first | (with_reducible first | refine W ?_ | refine Z0 ?_ | ((first | refine Wo fun K hK => ?_ | refine Wp ?_ | refine Wq ?_ | refine Wr ?_); (try simp only [go_sem, fN, seval, eT, iR, e7, e17, s10, s17, s500, s9, D6, List.getLast?_concat, hb, OZ, KV.sv, hmt, CX, dT, dF, nL]); (repeat refine Ai ?_); (try (refine hK _ ?_; clear hK K)); try refine iC ?_)) | refine Cg _ (Lp b.2 (by omega)) ?_)
   refine AG ⟨l.length - (seen.length + 1), by omega, seen ++ [j], hnd', hlt', by rw [List.length_append, List.length_singleton], ?_⟩
   rw [RI hb]
   simp only [go_sem, fN, seval, AS.drop, Ap, AC.clears, AC.clear, AC.highs, AC.high, Bool.not_false, Bool.true_and, Bool.and_self, AV.purge, AV.purges, AC.purge, AJ.purge, List.contains_cons, List.contains_nil, Nat.reduceBEq, Bool.or_self, Bool.or_false, Bool.false_or, Bool.or_true, eT, iR, e7, e17, s10, s500]
   show AJ.mrow _ _ ((met l seen).map CX ++ [CX b]) = BL _
   rw [BL, List.map_append]
   rfl

def G0 : IR :=
 (.seq (.ops [.i 1 (.box 32 (.t 0)), .i 2 (.mov (.n 0))]) (.seq (.ops [.i 3 (.mov (.n 1))]) (.seq (.seq (.ops [.f 6 1 1, .l 7 6, .i 8 (.len false (.t 7)), .i 9 (.mov (.n 0))]) (.block 0 (.loop (.seq (.ops [.i 10 (.bin .lss (.t 9) (.t 8))]) (.seq (.cond (.t 10) .skip (.exit 0)) (.seq (.block 1 (.seq (.ops [.i 11 (.indexAddr 2 (.t 7) (.t 9)), .L 12 2 11, .i 5 (.alloc 32 [.st (.str (ByteArray.mk (#[]))), .full []]), .s 2 5 12]) (.ops [.m 13 3, .L 14 2 5, .i 15 (.call 54 [.t 14]), .i 16 (.bin .add (.t 13) (.t 15)), .m 3 16]))) (.ops [.i 17 (.bin .add (.t 9) (.n 1)), .m 9 17]))))))) (.seq (.ops [.m 18 3, .m 2 18]) .ret))))
theorem L1 : OkF Tryd.prog 54 19 [] G0 [.t 2] := .of Tryd.func54 rfl rfl (by kernel_rfl) rfl

theorem TY (t : Tm) (hz : t.size ≤ 1000000) : Aa Tryd.prog 54 [aTm t] (AR t.size) := by
 induction h : SizeOf.sizeOf t using Nat.strongRecOn generalizing t with
 | _ N ih =>
 subst h
 have hs := Tm.size_eq t
 have hln := Tm.length_le t.args
 refine L1.ac fun C hC => ?_
 unfold G0
 repeat' with_reducible first | refine W ?_ | refine Z0 ?_ | ((first | refine Wo fun K hK => ?_ | refine Wp ?_ | refine Wq ?_ | refine Wr ?_); (try simp only [go_sem, fN, seval, eT, iR, dT, dF, nL]); (repeat refine Ai ?_); (try (refine hK _ ?_; clear hK K)); try refine iC ?_)
 refine IWP.loopD [5] (fun m s => ∃ k, k ≤ t.args.length ∧ m = t.args.length - k ∧ s.env 3 = AR ((1 + Tm.sizes (t.args.take k) : Nat) : Int) ∧ s.env 7 = HX t.args ∧ s.env 8 = AR t.args.length ∧ s.env 9 = AR k ∧ s.S 5 = none) t.args.length ⟨0, Nat.zero_le _, rfl, rfl, rfl, rfl, rfl, rfl⟩ ?_
 rintro m ⟨env, S⟩ ⟨k, hk, rfl, e3, e7, e8, e9, s5⟩
 simp only at e3 e7 e8 e9 s5
 by_cases hlt : (k : Int) < t.args.length
 ·obtain ⟨a, ha⟩ := Ao (show k < t.args.length by omega)
  have h1 := Tm.sizes_take ha
  have h2 := Tm.sizes_take_le t.args (k + 1)
  repeat' (first | (with_reducible first | refine W ?_ | refine Z0 ?_ | ((first | refine Wo fun K hK => ?_ | refine Wp ?_ | refine Wq ?_ | refine Wr ?_); (try simp only [go_sem, fN, seval, eT, iR, e3, e7, e8, e9, s5, hlt, ha, dT, dF, nL]); (repeat refine Ai ?_); (try (refine hK _ ?_; clear hK K)); try refine iC ?_)) | refine Cg _ (ih _ (Tm.lt_of_arg (AW ha)) a (by omega) rfl) ?_)
  refine AG ⟨t.args.length - (k + 1), by omega, k + 1, by omega, rfl, ?_⟩
  simp only [go_sem, fN, seval, AS.drop, Ap, AC.clears, AC.clear, AC.highs, AC.high, Bool.not_false, Bool.true_and, Bool.and_self, AV.purge, AV.purges, AC.purge, AJ.purge, List.contains_cons, List.contains_nil, Nat.reduceBEq, Bool.or_self, Bool.or_false, Bool.false_or, Bool.or_true, eT, iR, e3, e7, e8, e9, s5]
  exact ⟨by rw [h1]; congr 3; omega, by congr 3⟩
 ·repeat' with_reducible first | refine W ?_ | refine Z0 ?_ | ((first | refine Wo fun K hK => ?_ | refine Wp ?_ | refine Wq ?_ | refine Wr ?_); (try simp only [go_sem, fN, seval, eT, iR, e3, e7, e8, e9, hlt, dT, dF, nL]); (repeat refine Ai ?_); (try (refine hK _ ?_; clear hK K)); try refine iC ?_)
  simp only [go_sem, fN, seval, AO, AS.result, AB, AD, AI]
  rw [List.take_of_length_le (by omega), hs]

theorem TA (l : List Tm) (h0 : 0 < l.length) (hl : l.length ≤ 1000000) : Ek Tryd.prog 64 [HX l] 32 2 (l.map Ay) true := by
 unfold Ek
 rw [List.length_map]
 refine Bf.acS fun hS C hC => ?_
 unfold Aw
 have h0' : ¬ l.length = 0 := by omega
 have hb : l.length * 40 ≤ 140737488355328 := by omega
 repeat' with_reducible first | refine W ?_ | refine Z0 ?_ | ((first | refine Wo fun K hK => ?_ | refine Wp ?_ | refine Wq ?_ | refine Wr ?_); (try simp only [go_sem, fN, seval, eT, iR, h0', hb, dT, dF, nL]); (repeat refine Ai ?_); (try (refine hK _ ?_; clear hK K)); try refine iC ?_)
 exact Uf (mu := true) trivial 7 (by decide) rfl (fun i hi => by show AH _ _ _ _ = _; rw [AK _ (by omega)]; rfl) rfl
def KQ (r : Tm × Int × Int) : AV := .tup [aTm r.1, AR r.2.1, AR r.2.2]
theorem UC {R : List Pr} (hR : BJ R) (t : Tm) (hc : t.chk = 0) (hz : t.size ≤ 1000000) (f : Nat) (hf : f ≤ R.length) : Aa Tryd.prog 65 [CG R, aTm t, AR f] (KQ (GC t f (R.drop f))) := by
 unfold KQ
 have h40 := hR.len
 refine IJ.ac fun C hC => ?_
 unfold Ew
 repeat' with_reducible first | refine W ?_ | refine Z0 ?_ | ((first | refine Wo fun K hK => ?_ | refine Wp ?_ | refine Wq ?_ | refine Wr ?_); (try simp only [go_sem, fN, seval, eT, iR, dT, dF, nL]); (repeat refine Ai ?_); (try (refine hK _ ?_; clear hK K)); try refine iC ?_)
 refine IWP.loop (fun m s => ∃ k, k ≤ R.length ∧ m = R.length - k ∧ GC t f (R.drop f) = GC t k (R.drop k) ∧ s.env 0 = CG R ∧ s.env 4 = .one (.ptr 4 1 0 0) ∧ s.env 6 = .one (.ptr 6 1 0 0) ∧ s.S 4 = some (.box 32 [.st (.str t.name), .st (.list (t.args.map Ay))]) ∧ s.S 6 = some (.box 32 [.st (.str ⟨#[]⟩), .full []]) ∧ s.S 12 = none ∧ s.env 9 = AR k) (R.length - f) ⟨f, hf, rfl, rfl, rfl, rfl, rfl, rfl, rfl, rfl, rfl⟩ ?_
 rintro m ⟨env, S⟩ ⟨k, hk, rfl, hrk, e0, e4, e6, s4, s6, s12, e9⟩
 simp only at e0 e4 e6 s4 s6 s12 e9
 rw [hrk]
 by_cases hlt : (k : Int) < R.length
 ·obtain ⟨r, hr⟩ := Ao (show k < R.length by omega)
  have hmem := AW hr
  have c1 := Tm.may_chk (hR.left r hmem)
  have c2 := Tm.may_chk (hR.right r hmem)
  have hok := PT c1.1 hc
  have hd := Bl hr
  rw [hd, GC]
  by_cases hcase : GH r.1 t = true
  ·rw [if_pos hcase]
   have hon := Ki (CM r.1 t) (by have := NC (p := r.1) (t := t); omega) hok.ord r.2 hok.var c2.1
   by_cases hon2 : (BH (CM r.1 t) r.2).2 = true
   ·repeat' (first | (with_reducible first | refine W ?_ | refine Z0 ?_ | ((first | refine Wo fun K hK => ?_ | refine Wp ?_ | refine Wq ?_ | refine Wr ?_); (try simp only [go_sem, fN, seval, eT, iR, e0, e4, e6, s4, s6, s12, e9, hlt, hr, BR, hcase, hon2, dT, dF, nL]); (repeat refine Ai ?_); (try (refine hK _ ?_; clear hK K)); try refine iC ?_)) | refine Cg _ (OX r.1 t (by omega) hz) ?_ | refine Cg _ (hon) ?_)
    simp only [go_sem, fN, seval, AO, AS.result, AB, AD, AI, e6, s6, hon2]
   ·have hnil := Pa hon2
    simp only [Bool.not_eq_true] at hon2
    repeat' (first | (with_reducible first | refine W ?_ | refine Z0 ?_ | ((first | refine Wo fun K hK => ?_ | refine Wp ?_ | refine Wq ?_ | refine Wr ?_); (try simp only [go_sem, fN, seval, eT, iR, e0, e4, e6, s4, s6, s12, e9, hlt, hr, BR, hcase, hon2, dT, dF, nL]); (repeat refine Ai ?_); (try (refine hK _ ?_; clear hK K)); try refine iC ?_)) | refine Cg _ (OX r.1 t (by omega) hz) ?_ | refine Cg _ (hon) ?_)
    simp only [go_sem, fN, seval, AO, AS.result, AB, AD, AI, e6, s6, hon2, hnil]
    rfl
  ·rw [if_neg hcase]
   repeat' (first | (with_reducible first | refine W ?_ | refine Z0 ?_ | ((first | refine Wo fun K hK => ?_ | refine Wp ?_ | refine Wq ?_ | refine Wr ?_); (try simp only [go_sem, fN, seval, eT, iR, e0, e4, e6, s4, s6, s12, e9, hlt, hr, BR, hcase, dT, dF, nL]); (repeat refine Ai ?_); (try (refine hK _ ?_; clear hK K)); try refine iC ?_)) | refine Cg _ (OX r.1 t (by omega) hz) ?_)
   refine AG ⟨R.length - (k + 1), by omega, k + 1, by omega, rfl, ?_, ?_⟩
   ·rfl
   ·simp only [go_sem, fN, seval, eT, iR, e0, e4, e6, s4, s6, s12, e9]
    congr 3
 ·have hd : R.drop k = [] := List.drop_of_length_le (by omega)
  rw [hd]
  repeat' with_reducible first | refine W ?_ | refine Z0 ?_ | ((first | refine Wo fun K hK => ?_ | refine Wp ?_ | refine Wq ?_ | refine Wr ?_); (try simp only [go_sem, fN, seval, eT, iR, e0, e4, e6, s4, s6, s12, e9, hlt, dT, dF, nL]); (repeat refine Ai ?_); (try (refine hK _ ?_; clear hK K)); try refine iC ?_)
  simp only [go_sem, fN, seval, AO, AS.result, AB, AD, AI, e6, s6]
  rfl
def Hk (t : Tm) (r : Option (Tm × Int)) : AV := match r with
 | none => .tup [aTm t, Af false, AR 0]
 | some (x, e) => .tup [aTm x, Af true, AR e]
theorem Ui {R : List Pr} {t : Tm} (h : Gq R t = none) : KQ (GC t 0 (R.drop 0)) = .tup [aTm Tm.nil, AR (-1), AR 0] := by
 have := Ix R t R 0
 unfold Gq at h
 rw [h] at this
 rw [List.drop_zero, KQ, this]
theorem Uh {R : List Pr} {t x : Tm} {e : Int} (h : Gq R t = some (x, e)) : ∃ i : Nat, KQ (GC t 0 (R.drop 0)) = .tup [aTm x, AR i, AR e] := by
 have := Ix R t R 0
 unfold Gq at h
 rw [h] at this
 obtain ⟨i, hi⟩ := this
 exact ⟨i, by rw [List.drop_zero, KQ, hi]⟩
theorem M5 {R : List Pr} (hR : BJ R) (t : Tm) (hc : t.chk = 0) (hz : t.size ≤ 1000000) : Aa Tryd.prog 53 [CG R, aTm t] (Hk Tm.nil (t.inn R)) := by
 induction h : SizeOf.sizeOf t using Nat.strongRecOn generalizing t with
 | _ N ih =>
 subst h
 have hs := Tm.size_eq t
 have hln := Tm.length_le t.args
 refine FL.ac fun C hC => ?_
 unfold DM
 repeat' with_reducible first | refine W ?_ | refine Z0 ?_ | ((first | refine Wo fun K hK => ?_ | refine Wp ?_ | refine Wq ?_ | refine Wr ?_); (try simp only [go_sem, fN, seval, eT, iR, dT, dF, nL]); (repeat refine Ai ?_); (try (refine hK _ ?_; clear hK K)); try refine iC ?_)
 refine IWP.loopD [8] (fun m s => ∃ k, k ≤ t.args.length ∧ m = t.args.length - k ∧ (∀ b ∈ t.args.take k, b.inn R = none) ∧ s.env 0 = CG R ∧ s.env 3 = .one (.ptr 3 1 0 0) ∧ s.env 4 = .one (.ptr 4 1 0 0) ∧ s.S 3 = some (.box 32 [.st (.str t.name), .st (.list (t.args.map Ay))]) ∧ s.S 4 = some (.box 32 [.st (.str ⟨#[]⟩), .full []]) ∧ s.S 8 = none ∧ s.S 11 = none ∧ s.S 12 = none ∧ s.S 41 = none ∧ s.env 17 = AR t.args.length ∧ s.env 18 = AR k)
  t.args.length ⟨0, Nat.zero_le _, rfl, by simp, rfl, rfl, rfl, rfl, rfl, rfl, rfl, rfl, rfl, rfl, rfl⟩ ?_
 rintro m ⟨env, S⟩ ⟨k, hk, rfl, hno, e0, e3, e4, s3, s4, s8, s11, s12, s41, e17, e18⟩
 simp only at e0 e3 e4 s3 s4 s8 s11 s12 s41 e17 e18
 by_cases hlt : (k : Int) < t.args.length
 ·obtain ⟨a, ha⟩ := Ao (show k < t.args.length by omega)
  have hmem := AW ha
  have hcon := ih _ (Tm.lt_of_arg hmem) a ((Tm.chk_args hc).2 a hmem) (by have := Tm.size_mem hmem; omega) rfl
  cases hi : a.inn R with
  | none =>
   rw [hi] at hcon
   unfold Hk at hcon
   repeat' (first | (with_reducible first | refine W ?_ | refine Z0 ?_ | ((first | refine Wo fun K hK => ?_ | refine Wp ?_ | refine Wq ?_ | refine Wr ?_); (try simp only [go_sem, fN, seval, eT, iR, e0, e3, e4, s3, s4, s8, s11, s12, s41, e17, e18, hlt, ha, dT, dF, nL]); (repeat refine Ai ?_); (try (refine hK _ ?_; clear hK K)); try refine iC ?_)) | refine Cg _ (hcon) ?_)
   refine AG ⟨t.args.length - (k + 1), by omega, k + 1, by omega, rfl, ?_, ?_⟩
   ·intro b hb
    rw [Aq ha] at hb
    rcases List.mem_append.1 hb with hb | hb
    ·exact hno b hb
    ·rw [List.mem_singleton.1 hb]
     exact hi
   ·simp only [go_sem, fN, seval, AS.drop, Ap, AC.clears, AC.clear, AC.highs, AC.high, Bool.not_false, Bool.true_and, Bool.and_self, AV.purge, AV.purges, AC.purge, AJ.purge, List.contains_cons, List.contains_nil, Nat.reduceBEq, Bool.or_self, Bool.or_false, Bool.false_or, Bool.or_true, eT, iR, e0, e3, e4, s3, s4, s8, s11, s12, s41, e17, e18]
    congr 3
  | some r =>
   obtain ⟨y, e⟩ := r
   rw [hi] at hcon
   unfold Hk at hcon
   have hin : t.inn R = some (.mk t.name (t.args.set k y), e) := by
    rw [Tm.inn_eq, PL ha hno hi]
   rw [hin]
   unfold Hk
   by_cases he : e = 0
   all_goals
    repeat' (first | (with_reducible first | refine W ?_ | refine Z0 ?_ | ((first | refine Wo fun K hK => ?_ | refine Wp ?_ | refine Wq ?_ | refine Wr ?_); (try simp only [go_sem, fN, seval, eT, iR, e0, e3, e4, s3, s4, s8, s11, s12, s41, e17, e18, hlt, ha, he, dT, dF, nL]); (repeat refine Ai ?_); (try (refine hK _ ?_; clear hK K)); try refine iC ?_)) | refine Cg _ (hcon) ?_)
    refine ⟨_, _, _, _, TA t.args (by omega) (by omega), by simp [AH, s41], ?_⟩
    refine Wr ?_
    simp only [go_sem, fN, seval, eT, iR, e0, e3, e4, s3, s4, s8, s11, s12, s41, e17, e18, hlt, ha, he]
    refine hK _ ?_
    clear hK K
    refine Wb ?_
    refine IWP.mid (fun x => x.env 4 = .one (.ptr 4 1 0 0) ∧ x.env 11 = .one (.ptr 11 1 0 0) ∧ x.env 9 = Af true ∧ x.env 10 = AR e ∧ x.S 4 = some (.box 32 [.st (.str ⟨#[]⟩), .full []]) ∧ x.S 11 = some (.box 32 [.st (.str t.name), .row 41 t.args.length]) ∧ x.S 41 = some (.mrow 32 2 ((t.args.set k y).map Ay))) ?_ ?_
    ·repeat' with_reducible first | refine W ?_ | refine Z0 ?_ | ((first | refine Wo fun K hK => ?_ | refine Wp ?_ | refine Wq ?_ | refine Wr ?_); (try simp only [go_sem, fN, seval, eT, iR, e0, e3, e4, s3, s4, s8, s11, s12, s41, e17, e18, hlt, ha, he, dT, dF, nL]); (repeat refine Ai ?_); (try (refine hK _ ?_; clear hK K)); try refine iC ?_)
     refine ⟨rfl, ?_⟩
     simp only [go_sem, fN, seval, eT, iR, e0, e3, e4, s3, s4, s8, s11, s12, s41, e17, e18, hlt, ha, he]
     rw [List.map_set, CS]
    rintro ⟨env, S⟩ ⟨e4, e11, e9, e10, s4, s11, s41⟩
    simp only at e4 e11 e9 e10 s4 s11 s41
    refine IWP.ghost (Ae.share (id := 41) s41) ?_
    have hl1 : (t.args.set k y).length = t.args.length := by simp
    repeat' with_reducible first | refine W ?_ | refine Z0 ?_ | ((first | refine Wo fun K hK => ?_ | refine Wp ?_ | refine Wq ?_ | refine Wr ?_); (try simp only [go_sem, fN, seval, eT, iR, e4, e11, e9, e10, s4, s11, hl1, dT, dF, nL]); (repeat refine Ai ?_); (try (refine hK _ ?_; clear hK K)); try refine iC ?_)
    simp only [go_sem, fN, seval, AO, AS.result, AB, AD, AI, e4, s4, hl1]
    first | rfl | (rw [he]; rfl)
 ·rw [List.take_of_length_le (by omega)] at hno
  have hin : t.inn R = Gq R t := by rw [Tm.inn_eq, MA hno]
  rw [hin]
  have hroot := UC hR t hc hz 0 (by omega)
  cases hr : Gq R t with
  | none =>
   rw [Ui hr] at hroot
   unfold Hk
   repeat' (first | (with_reducible first | refine W ?_ | refine Z0 ?_ | ((first | refine Wo fun K hK => ?_ | refine Wp ?_ | refine Wq ?_ | refine Wr ?_); (try simp only [go_sem, fN, seval, eT, iR, e0, e3, e4, s3, s4, s8, s11, s12, s41, e17, e18, hlt, dT, dF, nL]); (repeat refine Ai ?_); (try (refine hK _ ?_; clear hK K)); try refine iC ?_)) | refine Cg _ (hroot) ?_)
   simp only [go_sem, fN, seval, AO, AS.result, AB, AD, AI, e4, s4]
  | some r =>
   obtain ⟨x, e⟩ := r
   obtain ⟨i, hi⟩ := Uh hr
   rw [hi] at hroot
   unfold Hk
   repeat' (first | (with_reducible first | refine W ?_ | refine Z0 ?_ | ((first | refine Wo fun K hK => ?_ | refine Wp ?_ | refine Wq ?_ | refine Wr ?_); (try simp only [go_sem, fN, seval, eT, iR, e0, e3, e4, s3, s4, s8, s11, s12, s41, e17, e18, hlt, dT, dF, nL]); (repeat refine Ai ?_); (try (refine hK _ ?_; clear hK K)); try refine iC ?_)) | refine Cg _ (hroot) ?_)
   simp only [go_sem, fN, seval, AO, AS.result, AB, AD, AI, e4, s4]

def UX (r : Tm × Int × Int) : AV := .tup [aTm r.1, AR r.2.1, AR r.2.2]
abbrev Ub (t : Tm) : AJ := .box 32 [.st (.str t.name), .st (.list (t.args.map Ay))]
abbrev Ue : AJ := .box 32 [.st (.str ⟨#[]⟩), .full []]
theorem Pe {step : Tm → Option (Tm × Int)} {t : Tm} (h : step t = none) (k : Nat) (n : Int) : Ct step k n t = (t, n, 0) := by
 cases k <;> (unfold Ct; rw [h])
theorem Qe {step : Tm → Option (Tm × Int)} {t : Tm} {r : Tm × Int} (h : step t = some r) (n : Int) : Ct step 0 n t = (Tm.nil, 0, 9) := by
 unfold Ct
 rw [h]
theorem Q0 {step : Tm → Option (Tm × Int)} {t x : Tm} {e : Int} (h : step t = some (x, e)) (he : e ≠ 0) (k : Nat) (n : Int) : Ct step (k + 1) n t = (Tm.nil, 0, e) := by
 rw [Ct, h]
 exact if_pos he
theorem Oa {step : Tm → Option (Tm × Int)} {t x : Tm} (h : step t = some (x, 0)) (hz : 2000 < x.size) (k : Nat) (n : Int) : Ct step (k + 1) n t = (Tm.nil, 0, 8) := by
 rw [Ct, h]
 simp only [ne_eq, not_true_eq_false, if_false]
 exact if_pos hz
theorem Ta {step : Tm → Option (Tm × Int)} {t x : Tm} (h : step t = some (x, 0)) (hz : ¬ 2000 < x.size) (k : Nat) (n : Int) : Ct step (k + 1) n t = Ct step k (n + 1) x := by
 rw [Ct, h]
 simp only [ne_eq, not_true_eq_false, if_false]
 exact if_neg hz
theorem Q9 {R : List Pr} (hR : BJ R) (t0 : Tm) (hc0 : t0.chk = 0) (hz0 : t0.size ≤ 900000) (most : Nat) (hm : most ≤ 1000000) : Aa Tryd.prog 33 [CG R, aTm t0, AR most] (UX (Ct (Tm.inn R) most 0 t0)) := by
 unfold UX
 refine H9.ac fun C hC => ?_
 unfold Er
 repeat' (first | (with_reducible first | refine W ?_ | refine Z0 ?_ | ((first | refine Wo fun K hK => ?_ | refine Wp ?_ | refine Wq ?_ | refine Wr ?_); (try simp only [go_sem, fN, seval, eT, iR, dT, dF, nL]); (repeat refine Ai ?_); (try (refine hK _ ?_; clear hK K)); try refine iC ?_)) | refine Cg _ (Lp t0 (by omega)) ?_)
 refine IWP.loopD [10] (fun m s => ∃ (n : Nat) (t : Tm), n ≤ most ∧ m = most - n ∧ Ct (Tm.inn R) most 0 t0 = Ct (Tm.inn R) (most - n) n t ∧ t.chk = 0 ∧ t.size ≤ 900000 ∧ s.env 0 = CG R ∧ s.env 2 = AR most ∧ s.env 4 = .one (.ptr 4 1 0 0) ∧ s.env 6 = .one (.ptr 6 1 0 0) ∧ s.env 9 = AR n ∧ s.S 4 = some (Ub t) ∧ s.S 6 = some Ue ∧ s.S 10 = none)
  most ⟨0, t0, by omega, by omega, rfl, hc0, hz0, rfl, rfl, rfl, rfl, rfl, rfl, rfl, rfl⟩ ?_
 rintro m ⟨env, S⟩ ⟨n, t, hn, rfl, hend, hc, hz, e0, e2, e4, e6, e9, s4, s6, s10⟩
 simp only at e0 e2 e4 e6 e9 s4 s6 s10
 rw [hend]
 have hcon := M5 hR t hc (by omega)
 cases hs : t.inn R with
 | none =>
  rw [hs] at hcon
  unfold Hk at hcon
  rw [Pe hs]
  repeat' (first | (with_reducible first | refine W ?_ | refine Z0 ?_ | ((first | refine Wo fun K hK => ?_ | refine Wp ?_ | refine Wq ?_ | refine Wr ?_); (try simp only [go_sem, fN, seval, eT, iR, e0, e2, e4, e6, e9, s4, s6, s10, dT, dF, nL]); (repeat refine Ai ?_); (try (refine hK _ ?_; clear hK K)); try refine iC ?_)) | refine Cg _ (hcon) ?_)
  simp only [go_sem, fN, seval, AO, AS.result, AB, AD, AI, e6, s6]
 | some r =>
  obtain ⟨x, e⟩ := r
  rw [hs] at hcon
  unfold Hk at hcon
  obtain ⟨g1, g2, g3⟩ := Jh hR hc hs
  by_cases hmost : n = most
  ·have hmi : (n : Int) = most := by omega
   rw [show most - n = 0 by omega, Qe hs]
   repeat' (first | (with_reducible first | refine W ?_ | refine Z0 ?_ | ((first | refine Wo fun K hK => ?_ | refine Wp ?_ | refine Wq ?_ | refine Wr ?_); (try simp only [go_sem, fN, seval, eT, iR, e0, e2, e4, e6, e9, s4, s6, s10, hmi, dT, dF, nL]); (repeat refine Ai ?_); (try (refine hK _ ?_; clear hK K)); try refine iC ?_)) | refine Cg _ (hcon) ?_)
   simp only [go_sem, fN, seval, AO, AS.result, AB, AD, AI, e6, s6]
   rfl
  have hmi : ¬ (n : Int) = most := by omega
  obtain ⟨k, hk⟩ : ∃ k, most - n = k + 1 := ⟨most - n - 1, by omega⟩
  rw [hk]
  by_cases he : e = 0
  case neg =>
   rw [Q0 hs he]
   repeat' (first | (with_reducible first | refine W ?_ | refine Z0 ?_ | ((first | refine Wo fun K hK => ?_ | refine Wp ?_ | refine Wq ?_ | refine Wr ?_); (try simp only [go_sem, fN, seval, eT, iR, e0, e2, e4, e6, e9, s4, s6, s10, hmi, he, dT, dF, nL]); (repeat refine Ai ?_); (try (refine hK _ ?_; clear hK K)); try refine iC ?_)) | refine Cg _ (hcon) ?_)
   simp only [go_sem, fN, seval, AO, AS.result, AB, AD, AI, e6, s6]
   rfl
  case pos =>
  subst he
  have hsz := TY x (by omega)
  by_cases hgr : (2000 : Int) < x.size
  ·rw [Oa hs (by omega)]
   repeat' (first | (with_reducible first | refine W ?_ | refine Z0 ?_ | ((first | refine Wo fun K hK => ?_ | refine Wp ?_ | refine Wq ?_ | refine Wr ?_); (try simp only [go_sem, fN, seval, eT, iR, e0, e2, e4, e6, e9, s4, s6, s10, hmi, hgr, dT, dF, nL]); (repeat refine Ai ?_); (try (refine hK _ ?_; clear hK K)); try refine iC ?_)) | refine Cg _ (hcon) ?_ | refine Cg _ (hsz) ?_)
   simp only [go_sem, fN, seval, AO, AS.result, AB, AD, AI, e6, s6]
   rfl
  ·repeat' (first | (with_reducible first | refine W ?_ | refine Z0 ?_ | ((first | refine Wo fun K hK => ?_ | refine Wp ?_ | refine Wq ?_ | refine Wr ?_); (try simp only [go_sem, fN, seval, eT, iR, e0, e2, e4, e6, e9, s4, s6, s10, hmi, hgr, dT, dF, nL]); (repeat refine Ai ?_); (try (refine hK _ ?_; clear hK K)); try refine iC ?_)) | refine Cg _ (hcon) ?_ | refine Cg _ (hsz) ?_)
   refine AG ⟨most - (n + 1), by omega, n + 1, x, by omega, rfl, ?_, g2 rfl, by omega, ?_⟩
   ·rw [show most - (n + 1) = k by omega]
    exact Ta hs (by omega) k n
   ·simp only [go_sem, fN, seval, AS.drop, Ap, AC.clears, AC.clear, AC.highs, AC.high, Bool.not_false, Bool.true_and, Bool.and_self, AV.purge, AV.purges, AC.purge, AJ.purge, List.contains_cons, List.contains_nil, Nat.reduceBEq, Bool.or_self, Bool.or_false, Bool.false_or, Bool.or_true, eT, iR, e0, e2, e4, e6, e9, s4, s6, s10]
    congr 3
theorem QA {R : List Pr} {t : Tm} (h : Gn R t = 0) : BJ R ∧ t.chk = 0 ∧ t.size ≤ 200 := by
 unfold Gn at h
 by_cases h0 : BM R = 0
 ·rw [if_pos h0] at h
  exact ⟨LH h0, Tm.may_chk h⟩
 ·rw [if_neg h0] at h
  exact absurd h h0
theorem Lw {m : Int} (h : Bw m = 0) : 0 ≤ m ∧ m ≤ 400 := by
 unfold Bw at h
 split at h
 ·cases h
 ·omega
theorem T9 {R : List Pr} (hR : BJ R) (a b : Tm) (ha : a.chk = 0) (hb : b.chk = 0) (za : a.size ≤ 900000) (zb : b.size ≤ 900000) (most : Nat) (hm : most ≤ 1000000) : Aa Tryd.prog 13 [CG R, aTm a, aTm b, AR most] (.tup [Af (D1 R most a b).1, AR (D1 R most a b).2]) := by
 have l1 := Q9 hR a ha za most hm
 have l2 := Q9 hR b hb zb most hm
 have hmet : D1 R most a b = if (Ct (Tm.inn R) most 0 a).2.2 ≠ 0 then (false, (Ct (Tm.inn R) most 0 a).2.2) else if (Ct (Tm.inn R) most 0 b).2.2 ≠ 0 then (false, (Ct (Tm.inn R) most 0 b).2.2) else ((Ct (Tm.inn R) most 0 a).1.beq (Ct (Tm.inn R) most 0 b).1, 0) := rfl
 rw [hmet]
 unfold UX at l1 l2
 generalize Ct (Tm.inn R) most 0 a = x at *
 generalize Ct (Tm.inn R) most 0 b = y at *
 clear hmet
 refine Jn.ac fun C hC => ?_
 unfold FP
 by_cases h1 : x.2.2 = 0
 case neg =>
  rw [if_pos h1]
  repeat' (first | (with_reducible first | refine W ?_ | refine Z0 ?_ | ((first | refine Wo fun K hK => ?_ | refine Wp ?_ | refine Wq ?_ | refine Wr ?_); (try simp only [go_sem, fN, seval, eT, iR, h1, dT, dF, nL]); (repeat refine Ai ?_); (try (refine hK _ ?_; clear hK K)); try refine iC ?_)) | refine Cg _ (l1) ?_)
  simp only [go_sem, fN, seval, AO, AS.result, AB, AD, AI]
 case pos =>
 rw [if_neg (fun h => h h1)]
 by_cases h2 : y.2.2 = 0
 case neg =>
  rw [if_pos h2]
  repeat' (first | (with_reducible first | refine W ?_ | refine Z0 ?_ | ((first | refine Wo fun K hK => ?_ | refine Wp ?_ | refine Wq ?_ | refine Wr ?_); (try simp only [go_sem, fN, seval, eT, iR, h1, h2, dT, dF, nL]); (repeat refine Ai ?_); (try (refine hK _ ?_; clear hK K)); try refine iC ?_)) | refine Cg _ (l1) ?_ | refine Cg _ (l2) ?_)
  simp only [go_sem, fN, seval, AO, AS.result, AB, AD, AI]
 case pos =>
 rw [if_neg (fun h => h h2)]
 repeat' (first | (with_reducible first | refine W ?_ | refine Z0 ?_ | ((first | refine Wo fun K hK => ?_ | refine Wp ?_ | refine Wq ?_ | refine Wr ?_); (try simp only [go_sem, fN, seval, eT, iR, h1, h2, dT, dF, nL]); (repeat refine Ai ?_); (try (refine hK _ ?_; clear hK K)); try refine iC ?_)) | refine Cg _ (l1) ?_ | refine Cg _ (l2) ?_ | refine Cg _ (SG x.1 y.1) ?_)
 simp only [go_sem, fN, seval, AO, AS.result, AB, AD, AI]
def HU (R : List Pr) (a b : Tm) (m : Int) : Bool × Int := if Gn R a = 0 then (if b.may = 0 then (if Bw m = 0 then D1 R m.toNat a b else (false, Bw m)) else (false, b.may)) else (false, Gn R a)
theorem UT (R : List Pr) (a b : Tm) (m : Int) : Aa Tryd.prog 7 [CG R, aTm a, aTm b, AR m] (.tup [Af (HU R a b m).1, AR (HU R a b m).2]) := by
 unfold HU
 refine IH.ac fun C hC => ?_
 unfold E1
 by_cases ha : Gn R a = 0
 case neg =>
  rw [if_neg ha]
  repeat' (first | (with_reducible first | refine W ?_ | refine Z0 ?_ | ((first | refine Wo fun K hK => ?_ | refine Wp ?_ | refine Wq ?_ | refine Wr ?_); (try simp only [go_sem, fN, seval, eT, iR, ha, dT, dF, nL]); (repeat refine Ai ?_); (try (refine hK _ ?_; clear hK K)); try refine iC ?_)) | refine Cg _ (Ff R a) ?_)
  simp only [go_sem, fN, seval, AO, AS.result, AB, AD, AI]
 case pos =>
 rw [if_pos ha]
 by_cases hb : b.may = 0
 case neg =>
  rw [if_neg hb]
  repeat' (first | (with_reducible first | refine W ?_ | refine Z0 ?_ | ((first | refine Wo fun K hK => ?_ | refine Wp ?_ | refine Wq ?_ | refine Wr ?_); (try simp only [go_sem, fN, seval, eT, iR, ha, hb, dT, dF, nL]); (repeat refine Ai ?_); (try (refine hK _ ?_; clear hK K)); try refine iC ?_)) | refine Cg _ (Ff R a) ?_ | refine Cg _ (Cv b) ?_)
  simp only [go_sem, fN, seval, AO, AS.result, AB, AD, AI]
 case pos =>
 rw [if_pos hb]
 by_cases hf : Bw m = 0
 case neg =>
  rw [if_neg hf]
  repeat' (first | (with_reducible first | refine W ?_ | refine Z0 ?_ | ((first | refine Wo fun K hK => ?_ | refine Wp ?_ | refine Wq ?_ | refine Wr ?_); (try simp only [go_sem, fN, seval, eT, iR, ha, hb, hf, dT, dF, nL]); (repeat refine Ai ?_); (try (refine hK _ ?_; clear hK K)); try refine iC ?_)) | refine Cg _ (Ff R a) ?_ | refine Cg _ (Cv b) ?_ | refine Cg _ (RR m) ?_)
  simp only [go_sem, fN, seval, AO, AS.result, AB, AD, AI]
 case pos =>
 rw [if_pos hf]
 obtain ⟨hR, hc, hz⟩ := QA ha
 obtain ⟨hcb, hzb⟩ := Tm.may_chk hb
 obtain ⟨m0, m1⟩ := Lw hf
 obtain ⟨n, rfl⟩ : ∃ n : Nat, m = n := ⟨m.toNat, by omega⟩
 rw [Int.toNat_natCast]
 have hmet := T9 hR a b hc hcb (by omega) (by omega) n (by omega)
 repeat' (first | (with_reducible first | refine W ?_ | refine Z0 ?_ | ((first | refine Wo fun K hK => ?_ | refine Wp ?_ | refine Wq ?_ | refine Wr ?_); (try simp only [go_sem, fN, seval, eT, iR, ha, hb, hf, dT, dF, nL]); (repeat refine Ai ?_); (try (refine hK _ ?_; clear hK K)); try refine iC ?_)) | refine Cg _ (Ff R a) ?_ | refine Cg _ (Cv b) ?_ | refine Cg _ (RR n) ?_ | refine Cg _ (hmet) ?_)
 simp only [go_sem, fN, seval, AO, AS.result, AB, AD, AI]



set_option maxHeartbeats 1600000
def crV (o : Option (List Pr)) : AV := match o with
 | none => .tup [CG [], AR 8]
 | some l => .tup [CG l, AR 0]
abbrev Q3 (p : Pr) : AJ := .box 34 [.st (.str p.1.name), .st (.list (p.1.args.map Ay)), .st (.str p.2.name), .st (.list (p.2.args.map Ay))]
structure OA (p : Pr) : Prop where
 c1 : p.1.chk = 0
 c2 : p.2.chk = 0
 z1 : p.1.size ≤ 200
 z2 : p.2.size ≤ 200
theorem IW {c : UInt8} (h65 : 65 ≤ c.toNat) (h90 : c.toNat ≤ 90) {k : Nat} (hk : k ≤ 1) {r : Pr} (h1 : r.1.may = 0) (h2 : r.2.may = 0) : OA (HN c k r) := by
 obtain ⟨c1, z1⟩ := Tm.may_chk h1
 obtain ⟨c2, z2⟩ := Tm.may_chk h2
 have hvl := Hy r.1
 have f1 := EZ h65 h90 hk (show r.1.varsOf.length ≤ 1000 by omega) c1
 have f2 := EZ h65 h90 hk (show r.1.varsOf.length ≤ 1000 by omega) c2
 exact ⟨f1.1, f2.1, by rw [HN]; show (Tm.on _ r.1).size ≤ 200; rw [f1.2]; exact z1, by rw [HN]; show (Tm.on _ r.2).size ≤ 200; rw [f2.2]; exact z2⟩
theorem Js {A B : Pr} (hA : OA A) (hB : OA B) (same : Bool) {p : List Int} {x : Tm} (hx : A.1.atP p = some x) (hk : x ∈ A.1.knots) :
  ((AQ x.name = true ∨ (same = true ∧ p = [])) ∧ DI A B same p = some []) ∨ (¬ (AQ x.name = true ∨ (same = true ∧ p = [])) ∧ ∃ n r, Cq n [] [(x, B.1)] r ∧ B_ [(x, B.1)] = 0 ∧
   ((r.2 = 8 ∧ DI A B same p = none) ∨ (r.2 ≠ 8 ∧ r.2 ≠ 0 ∧ DI A B same p = some []) ∨ (r.2 = 0 ∧ CN (Fs [(x, B.1)]) 100000000000 r.1 [] ∧
    DI A B same p = if (BH r.1 A.2).2 = true ∧ (BH r.1 (A.1.putP p B.2)).2 = true then some [Hb (BH r.1 A.2).1 (BH r.1 (A.1.putP p B.2)).1] else none))) := by
 have hxc := Ie A.1 x hA.c1 hk
 have hxz := Fb A.1 x hk
 have hAz := hA.z1
 have hmay := Gt (Lq hxc (by omega)) (Lq hB.c1 hB.z1)
 obtain ⟨n, r, hr⟩ := MP hmay
 have hs := PU hr
 unfold DI
 simp only [hx, hs]
 by_cases h1 : AQ x.name = true ∨ (same = true ∧ p = [])
 ·exact .inl ⟨h1, by rw [if_pos h1]⟩
 refine .inr ⟨h1, n, r, hr, hmay, ?_⟩
 rw [if_neg h1]
 by_cases h2 : r.2 = 8
 ·exact .inl ⟨h2, by rw [if_pos h2]⟩
 rw [if_neg h2]
 by_cases h3 : r.2 = 0
 ·refine .inr (.inr ⟨h3, ?_, by rw [if_neg (fun h => h h3)]⟩)
  have := Kw hmay (by rw [hs]; exact h3)
  rw [hs] at this
  exact this
 ·exact .inr (.inl ⟨h2, h3, by rw [if_pos h3]⟩)
theorem N_ {A B : Pr} {same : Bool} {ps : List (List Int)} {i : Nat} {p : List Int} (h : ps[i]? = some p) {acc : List Pr} (hall : EG A B same ps = (EG A B same (ps.drop i)).map (acc ++ ·)) : (DI A B same p = none → EG A B same ps = none) ∧ ∀ x, DI A B same p = some x → EG A B same ps = (EG A B same (ps.drop (i + 1))).map ((acc ++ x) ++ ·) := by
 rw [Bl h, EG] at hall
 refine ⟨fun h1 => ?_, fun x h1 => ?_⟩
 ·rw [h1] at hall
  exact hall
 ·rw [h1] at hall
  simp only [Option.map_map] at hall
  rw [hall]
  congr 1
  funext l
  simp
theorem QF {a b : Pr} (ha1 : a.1.may = 0) (ha2 : a.2.may = 0) (hb1 : b.1.may = 0) (hb2 : b.2.may = 0) (same : Bool) : Aa Tryd.prog 12 [aPr a, aPr b, Af same] (crV (TL (HN 88 1 a) (HN 89 1 b) same)) := by
 have pa := Ou 88 (by decide) (by decide) ha1 ha2
 have pb := Ou 89 (by decide) (by decide) hb1 hb2
 have hA := IW (c := 88) (by decide) (by decide) (k := 1) (by omega) ha1 ha2
 have hB := IW (c := 89) (by decide) (by decide) (k := 1) (by omega) hb1 hb2
 generalize HN 88 1 a = A at *
 generalize HN 89 1 b = B at *
 obtain ⟨A1, A2, A3, A4⟩ := hA
 obtain ⟨B1, B1', B3, B4⟩ := hB
 have hpl := Tm.places_length A.1
 have hall := UH A.1 (by omega)
 unfold TL
 refine Fv.ac fun C hC => ?_
 unfold DW
 repeat' (first | (with_reducible first | refine W ?_ | refine Z0 ?_ | ((first | refine Wo fun K hK => ?_ | refine Wp ?_ | refine Wq ?_ | refine Wr ?_); (try simp only [go_sem, fN, seval, eT, iR, dT, dF, nL]); (repeat refine Ai ?_); (try (refine hK _ ?_; clear hK K)); try refine iC ?_)) | refine Cg _ (pa) ?_ | refine Cg _ (pb) ?_ | refine Cg _ (hall) ?_)
 refine IWP.ghost (Ae.own 8 500 34 4 (xs := ([] : List Pr).map BR) (by rfl) (by rfl) HJ (by rw [hC]; decide)) ?_
 refine IWP.loopD [13, 17, 19] (fun m s => ∃ i acc, i ≤ A.1.places.length ∧ m = A.1.places.length - i ∧ acc.length ≤ i ∧ EG A B same A.1.places = (EG A B same (A.1.places.drop i)).map (acc ++ ·) ∧ s.env 2 = Af same ∧ s.env 8 = .one (.row 500 acc.length) ∧ s.env 9 = .one (.ptr 9 1 0 0) ∧ s.env 10 = .one (.ptr 10 1 0 0) ∧ s.env 28 = UU A.1.places ∧ s.env 29 = AR A.1.places.length ∧ s.env 30 = AR i ∧ s.S 9 = some (Q3 A) ∧ s.S 10 = some (Q3 B) ∧ s.S 13 = none ∧ s.S 17 = none ∧ s.S 19 = none ∧ s.S 500 = some (.arow 34 4 (acc.map BR))) A.1.places.length ⟨0, [], Nat.zero_le _, rfl, Nat.zero_le _, by simp, rfl, rfl, rfl, rfl, rfl, rfl, rfl, rfl, rfl, rfl, rfl, rfl, rfl⟩ ?_
 rintro m ⟨env, S⟩ ⟨i, acc, hi, rfl, hal, hcr, e2, e8, e9, e10, e28, e29, e30, s9, s10, s13, s17, s19, s500⟩
 simp only at e2 e8 e9 e10 e28 e29 e30 s9 s10 s13 s17 s19 s500
 have hl : (acc.map BR).length = acc.length := by simp
 by_cases hlt : i < A.1.places.length
 case neg =>
  rw [List.drop_of_length_le (by omega)] at hcr
  simp only [EG, Option.map_some, List.append_nil] at hcr
  rw [hcr]
  have hlt' : ¬ (i : Int) < A.1.places.length := by omega
  unfold crV
  repeat' with_reducible first | refine W ?_ | refine Z0 ?_ | ((first | refine Wo fun K hK => ?_ | refine Wp ?_ | refine Wq ?_ | refine Wr ?_); (try simp only [go_sem, fN, seval, eT, iR, e2, e8, e9, e10, e28, e29, e30, s9, s10, s13, s17, s19, s500, hlt', dT, dF, nL]); (repeat refine Ai ?_); (try (refine hK _ ?_; clear hK K)); try refine iC ?_)
  simp only [go_sem, fN, seval, AO, AS.result, AB, AD, AI, s500, hl]
 obtain ⟨p, hp⟩ := Ao hlt
 have hlt' : (i : Int) < A.1.places.length := by omega
 obtain ⟨x, hx, hxk⟩ := HO A.1 p (AW hp)
 have hxz := Fb A.1 x hxk
 have hpd := Tm.places_deep A.1 p (AW hp)
 have hbel := R6 A.1 p (by omega)
 rw [hx] at hbel
 have hwith := On B.2 (by omega) p A.1 (by omega) (by rw [hx]; simp) (by omega)
 obtain ⟨hno, hyes⟩ := N_ hp hcr
 have hpi : (p.map Nq).length = p.length := by simp
 have hadd : ∀ ys : List Pr, acc ++ ys = acc ++ ys := fun _ => rfl
 rcases Js ⟨A1, A2, A3, A4⟩ ⟨B1, B1', B3, B4⟩ same hx hxk with ⟨h1, h2⟩ | ⟨h1, n, r, hr, hmay, h2⟩
 ·have hn := hyes _ h2
  by_cases hv : AQ x.name = true
  ·repeat' (first | (with_reducible first | refine W ?_ | refine Z0 ?_ | ((first | refine Wo fun K hK => ?_ | refine Wp ?_ | refine Wq ?_ | refine Wr ?_); (try simp only [go_sem, fN, seval, eT, iR, e2, e8, e9, e10, e28, e29, e30, s9, s10, s13, s17, s19, s500, hlt', hp, hv, dT, dF, nL]); (repeat refine Ai ?_); (try (refine hK _ ?_; clear hK K)); try refine iC ?_)) | refine Cg _ (hbel) ?_ | refine Cg _ (Aj x.name) ?_)
   refine AG ⟨A.1.places.length - (i + 1), by omega, i + 1, acc ++ [], by omega, rfl, by simp; omega, hn, ?_⟩
   rw [List.append_nil]
   simp only [go_sem, fN, seval, AS.drop, Ap, AC.clears, AC.clear, AC.highs, AC.high, Bool.not_false, Bool.true_and, Bool.and_self, AV.purge, AV.purges, AC.purge, AJ.purge, List.contains_cons, List.contains_nil, Nat.reduceBEq, Bool.or_self, Bool.or_false, Bool.false_or, Bool.or_true, eT, iR, e2, e8, e9, e10, e28, e29, e30, s9, s10, s13, s17, s19, s500]
   congr 3
  ·obtain ⟨rfl, rfl⟩ : same = true ∧ p = [] := by
    rcases h1 with h1 | h1
    ·exact absurd h1 hv
    ·exact h1
   repeat' (first | (with_reducible first | refine W ?_ | refine Z0 ?_ | ((first | refine Wo fun K hK => ?_ | refine Wp ?_ | refine Wq ?_ | refine Wr ?_); (try simp only [go_sem, fN, seval, eT, iR, e2, e8, e9, e10, e28, e29, e30, s9, s10, s13, s17, s19, s500, hlt', hp, hv, dT, dF, nL]); (repeat refine Ai ?_); (try (refine hK _ ?_; clear hK K)); try refine iC ?_)) | refine Cg _ (hbel) ?_ | refine Cg _ (Aj x.name) ?_)
   refine AG ⟨A.1.places.length - (i + 1), by omega, i + 1, acc ++ [], by omega, rfl, by simp; omega, hn, ?_⟩
   rw [List.append_nil]
   simp only [go_sem, fN, seval, AS.drop, Ap, AC.clears, AC.clear, AC.highs, AC.high, Bool.not_false, Bool.true_and, Bool.and_self, AV.purge, AV.purges, AC.purge, AJ.purge, List.contains_cons, List.contains_nil, Nat.reduceBEq, Bool.or_self, Bool.or_false, Bool.false_or, Bool.or_true, eT, iR, e2, e8, e9, e10, e28, e29, e30, s9, s10, s13, s17, s19, s500]
   congr 3
 ·have hv : ¬ AQ x.name = true := fun h => h1 (.inl h)
  have hs : (same = false ∧ True) ∨ (same = true ∧ ¬ (p.length : Int) = 0) := by
   cases same with
   | false => exact .inl ⟨rfl, trivial⟩
   | true => exact .inr ⟨rfl, fun h => h1 (.inr ⟨rfl, List.length_eq_zero_iff.1 (by omega)⟩)⟩
  have hsv := PK _ (Ck hmay).1 _ (Nat.le_refl _) n _ r hr (Ck hmay).2
  have hU := (Ck hmay).1
  unfold CG at hsv
  simp only [List.map_cons, List.map_nil, BR] at hsv
  rcases hs with ⟨rfl, hp0⟩ | ⟨rfl, hp0⟩
  all_goals
   rcases h2 with ⟨r8, hc⟩ | ⟨r8, r0, hc⟩ | ⟨r0, hg, hc⟩
   ·rw [hno hc]
    unfold crV
    repeat' (first | (with_reducible first | refine W ?_ | refine Z0 ?_ | ((first | refine Wo fun K hK => ?_ | refine Wp ?_ | refine Wq ?_ | refine Wr ?_); (try simp only [go_sem, fN, seval, eT, iR, e2, e8, e9, e10, e28, e29, e30, s9, s10, s13, s17, s19, s500, hlt', hp, hv, hp0, r8, dT, dF, nL]); (repeat refine Ai ?_); (try (refine hK _ ?_; clear hK K)); try refine iC ?_)) | refine Cg _ (hbel) ?_ | refine Cg _ (Aj x.name) ?_ | refine Cg _ (hsv) ?_)
    simp only [go_sem, fN, seval, AO, AS.result, AB, AD, AI]
    rfl
   ·have hn := hyes _ hc
    repeat' (first | (with_reducible first | refine W ?_ | refine Z0 ?_ | ((first | refine Wo fun K hK => ?_ | refine Wp ?_ | refine Wq ?_ | refine Wr ?_); (try simp only [go_sem, fN, seval, eT, iR, e2, e8, e9, e10, e28, e29, e30, s9, s10, s13, s17, s19, s500, hlt', hp, hv, hp0, r8, r0, dT, dF, nL]); (repeat refine Ai ?_); (try (refine hK _ ?_; clear hK K)); try refine iC ?_)) | refine Cg _ (hbel) ?_ | refine Cg _ (Aj x.name) ?_ | refine Cg _ (hsv) ?_)
    refine AG ⟨A.1.places.length - (i + 1), by omega, i + 1, acc ++ [], by omega, rfl, by simp; omega, hn, ?_⟩
    rw [List.append_nil]
    simp only [go_sem, fN, seval, AS.drop, Ap, AC.clears, AC.clear, AC.highs, AC.high, Bool.not_false, Bool.true_and, Bool.and_self, AV.purge, AV.purges, AC.purge, AJ.purge, List.contains_cons, List.contains_nil, Nat.reduceBEq, Bool.or_self, Bool.or_false, Bool.false_or, Bool.or_true, eT, iR, e2, e8, e9, e10, e28, e29, e30, s9, s10, s13, s17, s19, s500]
    congr 3
   ·have hgl := hg.len
    have on1 := Ki r.1 (by omega) hg.ord A.2 hg.var A2
    have on2 := Ki r.1 (by omega) hg.ord (A.1.putP p B.2) hg.var (JW p A.1 B.2 A1 B1')
    have y1 : (BH r.1 A.2).1.size ≤ 2000 := Fm
    have y2 : (BH r.1 (A.1.putP p B.2)).1.size ≤ 2000 := Fm
    generalize BH r.1 A.2 = y at *
    generalize BH r.1 (A.1.putP p B.2) = z at *
    obtain ⟨y, yb⟩ := y
    obtain ⟨z, zb⟩ := z
    simp only at on1 on2 y1 y2 hc
    by_cases hb : yb = true ∧ zb = true
    ·obtain ⟨rfl, rfl⟩ := hb
     rw [if_pos ⟨rfl, rfl⟩] at hc
     have hn := hyes _ hc
     have hnm := Q8 [y, z] (by simp only [Tm.sizes]; omega)
     rw [show (Tm.cnL [y, z] []).1 = [(Hb y z).1, (Hb y z).2] from rfl] at hnm
     unfold HX at hnm
     simp only [List.map_cons, List.map_nil, CS] at hnm
     generalize Hb y z = q at *
     repeat' (first | (with_reducible first | refine W ?_ | refine Z0 ?_ | ((first | refine Wo fun K hK => ?_ | refine Wp ?_ | refine Wq ?_ | refine Wr ?_); (try simp only [go_sem, fN, seval, eT, iR, e2, e8, e9, e10, e28, e29, e30, s9, s10, s13, s17, s19, s500, hlt', hp, hv, hp0, r0, hl, dT, dF, nL]); (repeat refine Ai ?_); (try (refine hK _ ?_; clear hK K)); try refine iC ?_)) | refine Cg _ (hbel) ?_ | refine Cg _ (Aj x.name) ?_ | refine Cg _ (hsv) ?_ | refine Cg _ (on1) ?_ | refine Cg _ (hwith) ?_ | refine Cg _ (on2) ?_ | refine Cg _ (hnm) ?_)
     refine AG ⟨A.1.places.length - (i + 1), by omega, i + 1, acc ++ [q], by omega, rfl, by simp; omega, hn, ?_⟩
     simp only [go_sem, fN, seval, AS.drop, Ap, AC.clears, AC.clear, AC.highs, AC.high, Bool.not_false, Bool.true_and, Bool.and_self, AV.purge, AV.purges, AC.purge, AJ.purge, List.contains_cons, List.contains_nil, Nat.reduceBEq, Bool.or_self, Bool.or_false, Bool.false_or, Bool.or_true, eT, iR, e2, e8, e9, e10, e28, e29, e30, s9, s10, s13, s17, s19, s500]
     refine ⟨by congr 3, ?_⟩
     rw [List.map_append]
     rfl
    ·rw [if_neg hb] at hc
     rw [hno hc]
     unfold crV
     cases yb
     ·repeat' (first | (with_reducible first | refine W ?_ | refine Z0 ?_ | ((first | refine Wo fun K hK => ?_ | refine Wp ?_ | refine Wq ?_ | refine Wr ?_); (try simp only [go_sem, fN, seval, eT, iR, e2, e8, e9, e10, e28, e29, e30, s9, s10, s13, s17, s19, s500, hlt', hp, hv, hp0, r0, hl, dT, dF, nL]); (repeat refine Ai ?_); (try (refine hK _ ?_; clear hK K)); try refine iC ?_)) | refine Cg _ (hbel) ?_ | refine Cg _ (Aj x.name) ?_ | refine Cg _ (hsv) ?_ | refine Cg _ (on1) ?_ | refine Cg _ (hwith) ?_ | refine Cg _ (on2) ?_)
      simp only [go_sem, fN, seval, AO, AS.result, AB, AD, AI]
      rfl
     ·cases zb
      ·repeat' (first | (with_reducible first | refine W ?_ | refine Z0 ?_ | ((first | refine Wo fun K hK => ?_ | refine Wp ?_ | refine Wq ?_ | refine Wr ?_); (try simp only [go_sem, fN, seval, eT, iR, e2, e8, e9, e10, e28, e29, e30, s9, s10, s13, s17, s19, s500, hlt', hp, hv, hp0, r0, hl, dT, dF, nL]); (repeat refine Ai ?_); (try (refine hK _ ?_; clear hK K)); try refine iC ?_)) | refine Cg _ (hbel) ?_ | refine Cg _ (Aj x.name) ?_ | refine Cg _ (hsv) ?_ | refine Cg _ (on1) ?_ | refine Cg _ (hwith) ?_ | refine Cg _ (on2) ?_)
       simp only [go_sem, fN, seval, AO, AS.result, AB, AD, AI]
       rfl
      ·exact absurd ⟨rfl, rfl⟩ hb

theorem Oy {t : Tm} (hc : t.chk = 0) {l : List ByteArray} (hl : ∀ n ∈ (t.cn l).2, AQ n = true) : (t.cn l).1.size = t.size := by
 rw [Rh t hc l _ hl ⟨[], by simp⟩]
 refine PH (fun b hb => ?_) t
 obtain ⟨j, h1, h2⟩ := GR _ _ hb
 rw [h2]
 rfl
structure EB (q : Pr) : Prop where
 c1 : q.1.chk = 0
 c2 : q.2.chk = 0
 z1 : q.1.size ≤ 2000
 z2 : q.2.size ≤ 2000
theorem Oj {t : Tm} (hc : t.chk = 0) {l : List ByteArray} (hl : ∀ n ∈ l, AQ n = true) : ∀ n ∈ (t.cn l).2, AQ n = true := by
 rw [NH t hc]
 exact G8 _ l hl
theorem Pi {l r : Tm} (h1 : l.chk = 0) (h2 : r.chk = 0) (z1 : l.size ≤ 2000) (z2 : r.size ≤ 2000) : EB (Hb l r) := by
 have v1 := Oj h1 (l := []) (by simp)
 have v2 := Oj h2 v1
 have n1 := Eh l []
 have n2 := Eh r (l.cn []).2
 rw [List.length_nil] at n1
 exact ⟨RX h1 v1 (by omega), RX h2 v2 (by omega), by show (l.cn []).1.size ≤ _; rw [Oy h1 v1]; exact z1, by show (r.cn _).1.size ≤ _; rw [Oy h2 v2]; exact z2⟩
theorem OG {A B : Pr} (a1 : A.1.chk = 0) (a2 : A.2.chk = 0) (z1 : A.1.size ≤ 200) (b1 : B.1.chk = 0) (b2 : B.2.chk = 0) (bz : B.1.size ≤ 200) {same : Bool} {p : List Int} (hp : p ∈ A.1.places) {x : List Pr} (h : DI A B same p = some x) : x.length ≤ 1 ∧ ∀ q ∈ x, EB q := by
 obtain ⟨t, ht, hk⟩ := HO A.1 p hp
 have hxc := Ie A.1 t a1 hk
 have hxz := Fb A.1 t hk
 have hmay := Gt (Lq hxc (by omega)) (Lq b1 bz)
 unfold DI at h
 simp only [ht] at h
 split at h
 ·cases h
  exact ⟨by simp, by simp⟩
 split at h
 ·cases h
 split at h
 ·cases h
  exact ⟨by simp, by simp⟩
 rename_i h8 h0
 have h0 : (H7 [(t, B.1)]).2 = 0 := by
  rcases Decidable.em ((H7 [(t, B.1)]).2 = 0) with h | h
  ·exact h
  ·exact absurd h h0
 have hg := Kw hmay h0
 split at h
 ·rename_i hb
  cases h
  refine ⟨by simp, fun q hq => ?_⟩
  rw [List.mem_singleton.1 hq]
  exact Pi (M1 hg.chk a2 hb.1) (M1 hg.chk (JW p A.1 B.2 a1 b2) hb.2) Fm Fm
 ·cases h
theorem Mp {A B : Pr} (a1 : A.1.chk = 0) (a2 : A.2.chk = 0) (z1 : A.1.size ≤ 200) (b1 : B.1.chk = 0) (b2 : B.2.chk = 0) (bz : B.1.size ≤ 200) {same : Bool} : ∀ {ps : List (List Int)}, (∀ p ∈ ps, p ∈ A.1.places) → ∀ {x : List Pr}, EG A B same ps = some x → x.length ≤ ps.length ∧ ∀ q ∈ x, EB q
 | [], _, x, h => by
  cases h
  exact ⟨by simp, by simp⟩
 | p :: ps, hps, x, h => by
  rw [EG] at h
  split at h
  ·cases h
  ·rename_i y hy
   rw [Option.map_eq_some_iff] at h
   obtain ⟨z, h1, rfl⟩ := h
   obtain ⟨k1, k2⟩ := OG a1 a2 z1 b1 b2 bz (hps p (by simp)) hy
   obtain ⟨k3, k4⟩ := Mp a1 a2 z1 b1 b2 bz (fun q hq => hps q (List.mem_cons_of_mem _ hq)) h1
   refine ⟨by simp only [List.length_append, List.length_cons]; omega, fun q hq => ?_⟩
   rcases List.mem_append.1 hq with hq | hq
   ·exact k2 q hq
   ·exact k4 q hq
theorem Ow {cr : Nat → Nat → Option (List Pr)} : ∀ (l : List (Nat × Nat)) (acc : List Pr), (∀ q ∈ acc, EB q) → acc.length ≤ 400 → (∀ q ∈ l, ∀ x, cr q.1 q.2 = some x → ∀ p ∈ x, EB p) → (∀ q ∈ (H8 cr l acc).1, EB q) ∧ (H8 cr l acc).1.length ≤ 400
 | [], acc, h, hl, _ => ⟨h, hl⟩
 | q :: l, acc, h, hl, hc => by
  rw [H8]
  split
  ·exact ⟨by simp, by simp⟩
  ·rename_i x hx
   split
   ·exact ⟨by simp, by simp⟩
   ·refine Ow l (acc ++ x) (fun p hp => ?_) (by omega) fun q' hq' => hc q' (List.mem_cons_of_mem _ hq')
    rcases List.mem_append.1 hp with hp | hp
    ·exact h p hp
    ·exact hc q (by simp) x hx p hp

theorem RK {R : List Pr} {c d : UInt8} {k i j : Nat} {a b : Pr} (hi : R[i]? = some a) (hj : R[j]? = some b) : crR R c d k i j = TL (HN c k a) (HN d k b) (decide (i = j)) := by
 unfold crR
 rw [hi, hj]
theorem Sl {n i j : Nat} : ∀ q ∈ Fw n i j, j ≤ n → i < n → q.1 < n ∧ q.2 < n := fun q hq h1 h2 => by
 unfold Fw at hq
 rcases List.mem_append.1 hq with hq | hq
 ·obtain ⟨a, ha, rfl⟩ := List.mem_map.1 hq
  rw [List.mem_range'_1] at ha
  exact ⟨h2, by show a < n; omega⟩
 ·obtain ⟨a, ha, hq⟩ := List.mem_flatMap.1 hq
  obtain ⟨b, hb, rfl⟩ := List.mem_map.1 hq
  rw [List.mem_range'_1] at ha hb
  exact ⟨by show a < n; omega, by show b < n; omega⟩
theorem Sq {R : List Pr} (hR : BJ R) {i j : Nat} {x : List Pr} (hi : i < R.length) (hj : j < R.length) (h : crR R 88 89 1 i j = some x) : x.length ≤ 200 ∧ ∀ q ∈ x, EB q := by
 obtain ⟨a, ha⟩ := Ao hi
 obtain ⟨b, hb⟩ := Ao hj
 rw [RK ha hb] at h
 have ma := AW ha
 have mb := AW hb
 have oA := IW (c := 88) (by decide) (by decide) (k := 1) (by omega) (hR.left a ma) (hR.right a ma)
 have oB := IW (c := 89) (by decide) (by decide) (k := 1) (by omega) (hR.left b mb) (hR.right b mb)
 have := Mp oA.c1 oA.c2 oA.z1 oB.c1 oB.c2 oB.z1 (fun p hp => hp) h
 rw [Tm.places_length] at this
 exact ⟨by have := oA.z1; omega, this.2⟩
theorem Ko {R : List Pr} (hR : BJ R) : (∀ q ∈ (Cy R 88 89 1).1, EB q) ∧ (Cy R 88 89 1).1.length ≤ 400 := by
 unfold Cy
 split
 ·exact ⟨by simp, by simp⟩
 ·rename_i h
  exact Ow _ _ (by simp) (by simp) fun q hq x hx => by
   obtain ⟨h1, h2⟩ := Sl q hq (by omega) (by omega)
   exact (Sq hR h1 h2 hx).2
noncomputable def Me (R : List Pr) (c d : UInt8) (k i : Nat) (acc : List Pr) : List Pr × Int := if i < R.length then H8 (crR R c d k) (Fw R.length i 0) acc else (acc, 0)
theorem To {R : List Pr} {c d : UInt8} {k i : Nat} {acc : List Pr} (h : i < R.length) : Me R c d k i acc = H8 (crR R c d k) (Fw R.length i 0) acc := if_pos h
theorem QZ {R : List Pr} {c d : UInt8} {k i : Nat} {acc : List Pr} (h : i < R.length) : H8 (crR R c d k) (Fw R.length i R.length) acc = Me R c d k (i + 1) acc := by
 unfold Me
 by_cases h1 : i + 1 < R.length
 ·rw [if_pos h1, Qw h1]
 ·rw [if_neg h1, R9 (by omega), H8]
theorem NB (R : List Pr) (c d : UInt8) (k : Nat) : Cy R c d k = Me R c d k 0 [] := by
 unfold Cy Me
 by_cases h : R.length = 0
 ·rw [if_pos h, if_neg (by omega)]
 ·rw [if_neg h, if_pos (by omega)]
def prV (r : List Pr × Int) : AV := .tup [CG r.1, AR r.2]
theorem MB {R : List Pr} (hR : BJ R) (h0 : BM R = 0) : Aa Tryd.prog 5 [CG R] (prV (Cy R 88 89 1)) := by
 have h40 := hR.len
 rw [NB]
 unfold prV
 refine Du.ac fun C hC => ?_
 unfold Cx
 repeat' (first | (with_reducible first | refine W ?_ | refine Z0 ?_ | ((first | refine Wo fun K hK => ?_ | refine Wp ?_ | refine Wq ?_ | refine Wr ?_); (try simp only [go_sem, fN, seval, eT, iR, h0, dT, dF, nL]); (repeat refine Ai ?_); (try (refine hK _ ?_; clear hK K)); try refine iC ?_)) | refine Cg _ (Ec R) ?_)
 refine IWP.ghost (Ae.own 5 500 34 4 (xs := ([] : List Pr).map BR) (by rfl) (by rfl) HJ (by rw [hC]; decide)) ?_
 refine IWP.loopD [7, 9] (fun m s => ∃ i acc, i ≤ R.length ∧ m = R.length - i ∧ acc.length ≤ 400 ∧ Me R 88 89 1 0 [] = Me R 88 89 1 i acc ∧ s.env 0 = CG R ∧ s.env 5 = .one (.row 500 acc.length) ∧ s.env 17 = CG R ∧ s.env 18 = AR R.length ∧ s.env 19 = AR i ∧ s.S 7 = none ∧ s.S 9 = none ∧ s.S 500 = some (.arow 34 4 (acc.map BR))) R.length ⟨0, [], Nat.zero_le _, rfl, Nat.zero_le _, rfl, rfl, rfl, rfl, rfl, rfl, rfl, rfl, rfl⟩ ?_
 rintro m ⟨env, S⟩ ⟨i, acc, hi, rfl, hal, htot, e0, e5, e17, e18, e19, s7, s9, s500⟩
 simp only at e0 e5 e17 e18 e19 s7 s9 s500
 have hl : (acc.map BR).length = acc.length := by simp
 rw [htot]
 by_cases hlt : i < R.length
 case neg =>
  have hlt' : ¬ (i : Int) < R.length := by omega
  rw [Me, if_neg hlt]
  repeat' with_reducible first | refine W ?_ | refine Z0 ?_ | ((first | refine Wo fun K hK => ?_ | refine Wp ?_ | refine Wq ?_ | refine Wr ?_); (try simp only [go_sem, fN, seval, eT, iR, e0, e5, e17, e18, e19, s7, s9, s500, hlt', dT, dF, nL]); (repeat refine Ai ?_); (try (refine hK _ ?_; clear hK K)); try refine iC ?_)
  simp only [go_sem, fN, seval, AO, AS.result, AB, AD, AI, s500, hl]
 have hlt' : (i : Int) < R.length := by omega
 obtain ⟨a, ha⟩ := Ao hlt
 have ma := AW ha
 rw [To hlt]
 repeat' with_reducible first | refine W ?_ | refine Z0 ?_ | ((first | refine Wo fun K hK => ?_ | refine Wp ?_ | refine Wq ?_ | refine Wr ?_); (try simp only [go_sem, fN, seval, eT, iR, e0, e5, e17, e18, e19, s7, s9, s500, hlt', ha, BR, dT, dF, nL]); (repeat refine Ai ?_); (try (refine hK _ ?_; clear hK K)); try refine iC ?_)
 refine IWP.loopD [9] (fun m s => ∃ j acc2, j ≤ R.length ∧ m = R.length - j ∧ acc2.length ≤ 400 ∧ H8 (crR R 88 89 1) (Fw R.length i 0) acc = H8 (crR R 88 89 1) (Fw R.length i j) acc2 ∧ s.env 0 = CG R ∧ s.env 5 = .one (.row 500 acc2.length) ∧ s.env 6 = AR i ∧ s.env 7 = .one (.ptr 7 1 0 0) ∧ s.env 17 = CG R ∧ s.env 18 = AR R.length ∧ s.env 19 = AR i ∧ s.env 24 = CG R ∧ s.env 25 = AR R.length ∧ s.env 26 = AR j ∧ s.S 7 = some (Q3 a) ∧ s.S 9 = none ∧ s.S 500 = some (.arow 34 4 (acc2.map BR))) R.length ⟨0, acc, Nat.zero_le _, rfl, hal, rfl, ?_⟩ ?_
 ·simp only [go_sem, fN, seval, eT, iR, e0, e5, e17, e18, e19, s7, s9, s500]
 rintro m ⟨env, S⟩ ⟨j, acc2, hj, rfl, hal2, htot2, e0, e5, e6, e7, e17, e18, e19, e24, e25, e26, s7, s9, s500⟩
 simp only at e0 e5 e6 e7 e17 e18 e19 e24 e25 e26 s7 s9 s500
 have hl2 : (acc2.map BR).length = acc2.length := by simp
 rw [htot2]
 by_cases hjl : j < R.length
 case neg =>
  have hjl' : ¬ (j : Int) < R.length := by omega
  obtain rfl : j = R.length := by omega
  have hnx := QZ (c := 88) (d := 89) (k := 1) (acc := acc2) hlt
  repeat' with_reducible first | refine W ?_ | refine Z0 ?_ | ((first | refine Wo fun K hK => ?_ | refine Wp ?_ | refine Wq ?_ | refine Wr ?_); (try simp only [go_sem, fN, seval, eT, iR, e0, e5, e6, e7, e17, e18, e19, e24, e25, e26, s7, s9, s500, hjl', dT, dF, nL]); (repeat refine Ai ?_); (try (refine hK _ ?_; clear hK K)); try refine iC ?_)
  refine AG ⟨R.length - (i + 1), by omega, i + 1, acc2, by omega, rfl, hal2, ?_, ?_⟩
  ·exact hnx
  ·simp only [go_sem, fN, seval, AS.drop, Ap, AC.clears, AC.clear, AC.highs, AC.high, Bool.not_false, Bool.true_and, Bool.and_self, AV.purge, AV.purges, AC.purge, AJ.purge, List.contains_cons, List.contains_nil, Nat.reduceBEq, Bool.or_self, Bool.or_false, Bool.false_or, Bool.or_true, eT, iR, e0, e5, e6, e7, e17, e18, e19, e24, e25, e26, s7, s9, s500]
   congr 3
 have hjl' : (j : Int) < R.length := by omega
 obtain ⟨b, hb⟩ := Ao hjl
 have mb := AW hb
 have hij : decide ((i : Int) = (j : Int)) = decide (i = j) := by
  rw [decide_eq_decide]
  omega
 have hbt := QF (hR.left a ma) (hR.right a ma) (hR.left b mb) (hR.right b mb) (decide (i = j))
 rw [← RK ha hb, ← hij] at hbt
 rw [Tg hjl, H8] at htot2 ⊢
 cases hcr : crR R 88 89 1 i j with
 | none =>
  rw [hcr] at hbt
  unfold crV at hbt
  simp only [hcr]
  repeat' (first | (with_reducible first | refine W ?_ | refine Z0 ?_ | ((first | refine Wo fun K hK => ?_ | refine Wp ?_ | refine Wq ?_ | refine Wr ?_); (try simp only [go_sem, fN, seval, eT, iR, e0, e5, e6, e7, e17, e18, e19, e24, e25, e26, s7, s9, s500, hjl', hb, BR, dT, dF, nL]); (repeat refine Ai ?_); (try (refine hK _ ?_; clear hK K)); try refine iC ?_)) | refine Cg _ (hbt) ?_)
  simp only [go_sem, fN, seval, AO, AS.result, AB, AD, AI]
  rfl
 | some x =>
  rw [hcr] at hbt
  unfold crV at hbt
  simp only [hcr]
  have hxl := (Sq hR hlt hjl hcr).1
  have hxm : (x.map BR).length = x.length := by simp
  have hla : (acc2 ++ x).length = acc2.length + x.length := List.length_append
  by_cases hg : 400 < (acc2 ++ x).length
  ·rw [if_pos hg]
   have hg' : (400 : Int) < ((acc2.length + x.length : Nat) : Int) := by omega
   repeat' (first | (with_reducible first | refine W ?_ | refine Z0 ?_ | ((first | refine Wo fun K hK => ?_ | refine Wp ?_ | refine Wq ?_ | refine Wr ?_); (try simp only [go_sem, fN, seval, eT, iR, e0, e5, e6, e7, e17, e18, e19, e24, e25, e26, s7, s9, s500, hjl', hb, BR, hl2, hxm, hg', dT, dF, nL]); (repeat refine Ai ?_); (try (refine hK _ ?_; clear hK K)); try refine iC ?_)) | refine Cg _ (hbt) ?_)
   simp only [go_sem, fN, seval, AO, AS.result, AB, AD, AI]
   rfl
  ·rw [if_neg hg]
   have hg' : ¬ (400 : Int) < ((acc2.length + x.length : Nat) : Int) := by omega
   repeat' (first | (with_reducible first | refine W ?_ | refine Z0 ?_ | ((first | refine Wo fun K hK => ?_ | refine Wp ?_ | refine Wq ?_ | refine Wr ?_); (try simp only [go_sem, fN, seval, eT, iR, e0, e5, e6, e7, e17, e18, e19, e24, e25, e26, s7, s9, s500, hjl', hb, BR, hl2, hxm, hg', dT, dF, nL]); (repeat refine Ai ?_); (try (refine hK _ ?_; clear hK K)); try refine iC ?_)) | refine Cg _ (hbt) ?_)
   refine AG ⟨R.length - (j + 1), by omega, j + 1, acc2 ++ x, by omega, rfl, by omega, rfl, ?_⟩
   simp only [go_sem, fN, seval, AS.drop, Ap, AC.clears, AC.clear, AC.highs, AC.high, Bool.not_false, Bool.true_and, Bool.and_self, AV.purge, AV.purges, AC.purge, AJ.purge, List.contains_cons, List.contains_nil, Nat.reduceBEq, Bool.or_self, Bool.or_false, Bool.false_or, Bool.or_true, eT, iR, e0, e5, e6, e7, e17, e18, e19, e24, e25, e26, s7, s9, s500]
   refine ⟨by congr 3, ?_⟩
   rw [List.map_append]
def D4 (R : List Pr) (m : Nat) : List Pr → Bool × Int
 | [] => (true, 0)
 | p :: l => if (D1 R m p.1 p.2).2 = 0 then (if (D1 R m p.1 p.2).1 = true then D4 R m l else (false, 0)) else (false, (D1 R m p.1 p.2).2)
noncomputable def O6 (R : List Pr) (m : Int) : Bool × Int := if (Cy R 88 89 1).2 = 0 then (if Bw m = 0 then D4 R m.toNat (Cy R 88 89 1).1 else (false, Bw m)) else (false, (Cy R 88 89 1).2)
def joV (r : Bool × Int) : AV := .tup [Af r.1, AR r.2]
theorem TO {R : List Pr} (hR : BJ R) (h0 : BM R = 0) (m : Int) : Aa Tryd.prog 6 [CG R, AR m] (joV (O6 R m)) := by
 have hp := MB hR h0
 obtain ⟨hok, hlen⟩ := Ko hR
 unfold O6
 generalize Cy R 88 89 1 = P at *
 obtain ⟨l, e⟩ := P
 unfold prV at hp
 simp only at hp hok hlen ⊢
 have fm : Bw m = if m < 0 ∨ 400 < m then 10 else 0 := rfl
 unfold joV
 by_cases he : e = 0
 case neg =>
  rw [if_neg he]
  refine By.ac fun C hC => ?_
  unfold Bk
  repeat' (first | (with_reducible first | refine W ?_ | refine Z0 ?_ | ((first | refine Wo fun K hK => ?_ | refine Wp ?_ | refine Wq ?_ | refine Wr ?_); (try simp only [go_sem, fN, seval, eT, iR, he, dT, dF, nL]); (repeat refine Ai ?_); (try (refine hK _ ?_; clear hK K)); try refine iC ?_)) | refine Cg _ (hp) ?_)
  simp only [go_sem, fN, seval, AO, AS.result, AB, AD, AI]
 subst he
 rw [if_pos rfl]
 by_cases m1 : m < 0
 ·have f1 : Bw m = 10 := by rw [fm, if_pos (.inl m1)]
  rw [f1, if_neg (by decide)]
  refine By.ac fun C hC => ?_
  unfold Bk
  repeat' (first | (with_reducible first | refine W ?_ | refine Z0 ?_ | ((first | refine Wo fun K hK => ?_ | refine Wp ?_ | refine Wq ?_ | refine Wr ?_); (try simp only [go_sem, fN, seval, eT, iR, m1, dT, dF, nL]); (repeat refine Ai ?_); (try (refine hK _ ?_; clear hK K)); try refine iC ?_)) | refine Cg _ (hp) ?_)
  simp only [go_sem, fN, seval, AO, AS.result, AB, AD, AI]
 by_cases m2 : 400 < m
 ·have f1 : Bw m = 10 := by rw [fm, if_pos (.inr m2)]
  rw [f1, if_neg (by decide)]
  refine By.ac fun C hC => ?_
  unfold Bk
  repeat' (first | (with_reducible first | refine W ?_ | refine Z0 ?_ | ((first | refine Wo fun K hK => ?_ | refine Wp ?_ | refine Wq ?_ | refine Wr ?_); (try simp only [go_sem, fN, seval, eT, iR, m1, m2, dT, dF, nL]); (repeat refine Ai ?_); (try (refine hK _ ?_; clear hK K)); try refine iC ?_)) | refine Cg _ (hp) ?_)
  simp only [go_sem, fN, seval, AO, AS.result, AB, AD, AI]
 have f1 : Bw m = 0 := by rw [fm, if_neg (by omega)]
 rw [f1, if_pos rfl]
 obtain ⟨n, rfl⟩ : ∃ n : Nat, m = n := ⟨m.toNat, by omega⟩
 rw [Int.toNat_natCast]
 refine By.ac fun C hC => ?_
 unfold Bk
 repeat' (first | (with_reducible first | refine W ?_ | refine Z0 ?_ | ((first | refine Wo fun K hK => ?_ | refine Wp ?_ | refine Wq ?_ | refine Wr ?_); (try simp only [go_sem, fN, seval, eT, iR, m1, m2, dT, dF, nL]); (repeat refine Ai ?_); (try (refine hK _ ?_; clear hK K)); try refine iC ?_)) | refine Cg _ (hp) ?_)
 refine IWP.loopD [9] (fun m s => ∃ k, k ≤ l.length ∧ m = l.length - k ∧ D4 R n l = D4 R n (l.drop k) ∧ s.env 0 = CG R ∧ s.env 1 = AR n ∧ s.env 30 = CG l ∧ s.env 31 = AR l.length ∧ s.env 32 = AR k ∧ s.S 9 = none) l.length ⟨0, Nat.zero_le _, rfl, rfl, rfl, rfl, rfl, rfl, rfl, rfl⟩ ?_
 rintro m ⟨env, S⟩ ⟨k, hk, rfl, hj, e0, e1, e30, e31, e32, s9⟩
 simp only at e0 e1 e30 e31 e32 s9
 rw [hj]
 by_cases hkl : k < l.length
 case neg =>
  have hkl' : ¬ (k : Int) < l.length := by omega
  rw [List.drop_of_length_le (by omega)]
  repeat' with_reducible first | refine W ?_ | refine Z0 ?_ | ((first | refine Wo fun K hK => ?_ | refine Wp ?_ | refine Wq ?_ | refine Wr ?_); (try simp only [go_sem, fN, seval, eT, iR, e0, e1, e30, e31, e32, s9, hkl', dT, dF, nL]); (repeat refine Ai ?_); (try (refine hK _ ?_; clear hK K)); try refine iC ?_)
  simp only [go_sem, fN, seval, AO, AS.result, AB, AD, AI]
  rfl
 have hkl' : (k : Int) < l.length := by omega
 obtain ⟨q, hq⟩ := Ao hkl
 have o := hok q (AW hq)
 have hmet := T9 hR q.1 q.2 o.c1 o.c2 (by have := o.z1; omega) (by have := o.z2; omega) n (by omega)
 rw [Bl hq, D4]
 generalize D1 R n q.1 q.2 = y at *
 by_cases y2 : y.2 = 0
 ·by_cases y1 : y.1 = true
  ·rw [if_pos y2, if_pos y1]
   repeat' (first | (with_reducible first | refine W ?_ | refine Z0 ?_ | ((first | refine Wo fun K hK => ?_ | refine Wp ?_ | refine Wq ?_ | refine Wr ?_); (try simp only [go_sem, fN, seval, eT, iR, e0, e1, e30, e31, e32, s9, hkl', hq, BR, y1, y2, dT, dF, nL]); (repeat refine Ai ?_); (try (refine hK _ ?_; clear hK K)); try refine iC ?_)) | refine Cg _ (hmet) ?_)
   refine AG ⟨l.length - (k + 1), by omega, k + 1, by omega, rfl, rfl, ?_⟩
   simp only [go_sem, fN, seval, AS.drop, Ap, AC.clears, AC.clear, AC.highs, AC.high, Bool.not_false, Bool.true_and, Bool.and_self, AV.purge, AV.purges, AC.purge, AJ.purge, List.contains_cons, List.contains_nil, Nat.reduceBEq, Bool.or_self, Bool.or_false, Bool.false_or, Bool.or_true, eT, iR, e0, e1, e30, e31, e32, s9]
   congr 3
  ·rw [if_pos y2, if_neg y1]
   repeat' (first | (with_reducible first | refine W ?_ | refine Z0 ?_ | ((first | refine Wo fun K hK => ?_ | refine Wp ?_ | refine Wq ?_ | refine Wr ?_); (try simp only [go_sem, fN, seval, eT, iR, e0, e1, e30, e31, e32, s9, hkl', hq, BR, y1, y2, dT, dF, nL]); (repeat refine Ai ?_); (try (refine hK _ ?_; clear hK K)); try refine iC ?_)) | refine Cg _ (hmet) ?_)
   simp only [go_sem, fN, seval, AO, AS.result, AB, AD, AI]
 ·rw [if_neg y2]
  repeat' (first | (with_reducible first | refine W ?_ | refine Z0 ?_ | ((first | refine Wo fun K hK => ?_ | refine Wp ?_ | refine Wq ?_ | refine Wr ?_); (try simp only [go_sem, fN, seval, eT, iR, e0, e1, e30, e31, e32, s9, hkl', hq, BR, y2, dT, dF, nL]); (repeat refine Ai ?_); (try (refine hK _ ?_; clear hK K)); try refine iC ?_)) | refine Cg _ (hmet) ?_)
  simp only [go_sem, fN, seval, AO, AS.result, AB, AD, AI]
theorem Ku {R : List Pr} (h0 : BM R ≠ 0) : Aa Tryd.prog 5 [CG R] (.tup [CG [], AR (BM R)]) := by
 refine Du.ac fun C hC => ?_
 unfold Cx
 repeat' (first | (with_reducible first | refine W ?_ | refine Z0 ?_ | ((first | refine Wo fun K hK => ?_ | refine Wp ?_ | refine Wq ?_ | refine Wr ?_); (try simp only [go_sem, fN, seval, eT, iR, h0, dT, dF, nL]); (repeat refine Ai ?_); (try (refine hK _ ?_; clear hK K)); try refine iC ?_)) | refine Cg _ (Ec R) ?_)
 simp only [go_sem, fN, seval, AO, AS.result, AB, AD, AI]
 rfl
theorem Ru {R : List Pr} (h0 : BM R ≠ 0) (m : Int) : Aa Tryd.prog 6 [CG R, AR m] (.tup [Af false, AR (BM R)]) := by
 refine By.ac fun C hC => ?_
 unfold Bk
 repeat' (first | (with_reducible first | refine W ?_ | refine Z0 ?_ | ((first | refine Wo fun K hK => ?_ | refine Wp ?_ | refine Wq ?_ | refine Wr ?_); (try simp only [go_sem, fN, seval, eT, iR, h0, dT, dF, nL]); (repeat refine Ai ?_); (try (refine hK _ ?_; clear hK K)); try refine iC ?_)) | refine Cg _ (Ku h0) ?_)
 simp only [go_sem, fN, seval, AO, AS.result, AB, AD, AI]

theorem HE {R : List Pr} (hR : BJ R) : ∀ (k : Nat) (n : Int) (t : Tm), t.chk = 0 → (Ct (Tm.inn R) k n t).2.2 = 0 ∨ (Ct (Tm.inn R) k n t).2.2 = 8 ∨ (Ct (Tm.inn R) k n t).2.2 = 9
 | 0, n, t, hc => by
  rw [Ct]
  cases h : Tm.inn R t with
  | none => exact .inl rfl
  | some y => exact .inr (.inr rfl)
 | k + 1, n, t, hc => by
  rw [Ct]
  cases h : Tm.inn R t with
  | none => exact .inl rfl
  | some y =>
   obtain ⟨x, e⟩ := y
   obtain ⟨h1, h2, h3⟩ := Jh hR hc h
   simp only
   by_cases he : e = 0
   ·rw [if_neg (by simpa using he)]
    split
    ·exact .inr (.inl rfl)
    ·exact HE hR k _ x (h2 he)
   ·rw [if_pos he]
    rcases h1 with h1 | h1
    ·exact .inl h1
    ·exact .inr (.inl h1)
theorem KN {R : List Pr} (hR : BJ R) (m : Nat) {a b : Tm} (ha : a.chk = 0) (hb : b.chk = 0) : (D1 R m a b).2 = 0 ∨ (D1 R m a b).2 = 8 ∨ (D1 R m a b).2 = 9 := by
 have e1 := HE hR m 0 a ha
 have e2 := HE hR m 0 b hb
 unfold D1
 simp only
 split
 ·exact e1
 ·split
  ·exact e2
  ·exact .inl rfl
theorem LA {R : List Pr} (hR : BJ R) (m : Nat) : ∀ l : List Pr, (∀ q ∈ l, EB q) → (D4 R m l).2 = 0 ∨ (D4 R m l).2 = 8 ∨ (D4 R m l).2 = 9
 | [], _ => .inl rfl
 | p :: l, h => by
  have hp := h p (by simp)
  have he := KN hR m hp.c1 hp.c2
  rw [D4]
  split
  ·split
   ·exact LA hR m l fun q hq => h q (by simp [hq])
   ·exact .inl rfl
  ·exact he
theorem MR {R : List Pr} (h0 : BM R = 0) {q : Pr} (hq : EB q) (m : Nat) (hm : m ≤ 400) : HU R q.1 q.2 m = (false, 3) ∨ HU R q.1 q.2 m = D1 R m q.1 q.2 := by
 have hf : Bw (m : Int) = 0 := by unfold Bw; rw [if_neg (by omega)]
 have ha : Gn R q.1 = q.1.may := by unfold Gn; rw [if_pos h0]
 unfold HU
 rw [ha, hf]
 have m1 : q.1.may = 3 ∨ q.1.may = 0 := by unfold Tm.may; split <;> simp [hq.c1]
 have m2 : q.2.may = 3 ∨ q.2.may = 0 := by unfold Tm.may; split <;> simp [hq.c2]
 rcases m1 with m1 | m1
 ·rw [m1, if_neg (by decide)]
  exact .inl rfl
 ·rw [if_pos m1]
  rcases m2 with m2 | m2
  ·rw [m2, if_neg (by decide)]
   exact .inl rfl
  ·rw [if_pos m2, if_pos rfl, Int.toNat_natCast]
   exact .inr rfl

def BW : IR :=
 (.seq (.ops [.i 2 (.alloc 32 [.st (.str (ByteArray.mk (#[]))), .full []])]) (.seq (.ops [.i 3 (.mov (.n 0))]) (.seq (.block 0 (.loop (.seq (.seq (.ops [.m 6 3, .m 7 0, .i 8 (.nilCheck (.t 7)), .f 9 0 8, .l 10 9, .i 11 (.len true (.t 10)), .i 12 (.bin .lss (.t 6) (.t 11)), .m 13 12, .mk (some 14) (some (13, true)) (.mov (.t 0)) .no, .mk (some 15) (some (13, true)) (.nilCheck (.t 14)) .no, .mk (some 16) (some (13, true)) (.fieldAddr 0 (.t 15)) .no, .mk (some 17) (some (13, true)) (.load false 1 (.t 16)) .no, .mk (some 18) (some (13, true)) (.mov (.t 3)) .no, .mk (some 19) (some (13, true)) (.indexStr (.t 17) (.t 18)) .no, .mk (some 20) (some (13, true)) (.call 57 [.t 19]) .no, .i 21 (.pick (.t 13) (.t 20) (.c (.one (.st (.bool false)))))]) (.cond (.t 21) .skip (.exit 0))) (.block 1 (.ops [.m 22 3, .i 23 (.bin .add (.t 22) (.n 1)), .m 3 23]))))) (.seq (.seq (.ops [.m 24 3, .i 25 (.bin .eql (.t 24) (.n 0))]) (.cond (.t 25) (.seq (.seq (.ops [.m 26 0, .i 27 (.nilCheck (.t 26)), .f 28 0 27, .l 29 28, .i 30 (.bin .eql (.t 29) (.c (.one (.st (.str (ByteArray.mk (#[])))))))]) (.cond (.t 30) (.ops [.i 31 (.iface 72 (.n 13)), .mk none none (.pan (.t 31)) .no]) .skip)) (.ops [.i 32 (.iface 72 (.n 12)), .mk none none (.pan (.t 32)) .no])) .skip)) (.seq (.ops [.m 33 0, .i 34 (.nilCheck (.t 33)), .f 35 0 34, .l 36 35, .m 37 3, .i 38 (.sliceS (.t 36) none (some (.t 37))), .i 39 (.build [.st (.str (ByteArray.mk (#[]))), .full []] [(0, 1, .t 38)]), .i 4 (.alloc 32 [.st (.str (ByteArray.mk (#[]))), .full []]), .s 2 4 39]) (.seq (.seq (.ops [.f 40 0 4, .l 41 40, .i 42 (.call 56 [.t 41]), .i 43 (.un .not (.t 42))]) (.cond (.t 43) (.ops [.i 44 (.iface 72 (.n 1)), .mk none none (.pan (.t 44)) .no]) .skip)) (.seq (.seq (.ops [.m 45 0, .i 46 (.nilCheck (.t 45)), .f 47 1 46, .l 48 47, .i 49 (.bin .sub (.t 48) (.n 1)), .i 50 (.nilCheck (.t 45)), .f 51 1 50, .s 1 51 49]) (.seq (.ops [.m 52 0, .i 53 (.nilCheck (.t 52)), .f 54 1 53, .l 55 54, .i 56 (.bin .lss (.t 55) (.n 0))]) (.cond (.t 56) (.ops [.i 57 (.iface 72 (.n 3)), .mk none none (.pan (.t 57)) .no]) .skip))) (.seq (.ops [.m 58 0, .m 59 0, .i 60 (.nilCheck (.t 59)), .f 61 0 60, .l 62 61, .m 63 3, .i 64 (.sliceS (.t 62) (some (.t 63)) none), .i 65 (.nilCheck (.t 58)), .f 66 0 65, .s 1 66 64]) (.seq (.seq (.ops [.m 67 0, .i 68 (.nilCheck (.t 67)), .f 69 0 68, .l 70 69, .i 71 (.call 58 [.t 70, .c (.one (.st (.str (ByteArray.mk (#[40])))))]), .i 72 (.un .not (.t 71))]) (.cond (.t 72) (.seq (.ops [.L 73 2 4, .s 2 2 73]) .ret) .skip)) (.seq (.seq (.ops [.f 74 0 4, .l 75 74, .i 76 (.call 21 [.t 75])]) (.cond (.t 76) (.ops [.i 77 (.iface 72 (.n 2)), .mk none none (.pan (.t 77)) .no]) .skip)) (.seq (.seq (.ops [.i 5 (.mov (.c (.one (.st (.bool true)))))]) (.block 2 (.loop (.seq (.seq (.ops [.m 78 5]) (.cond (.t 78) .skip (.exit 2))) (.block 3 (.seq (.ops [.m 79 0, .m 80 0, .i 81 (.nilCheck (.t 80)), .f 82 0 81, .l 83 82, .i 84 (.sliceS (.t 83) (some (.n 1)) none), .i 85 (.nilCheck (.t 79)), .f 86 0 85, .s 1 86 84]) (.seq (.ops [.mk (some 87) none (.fieldAddr 1 (.t 4)) (.onb 4), .mk (some 88) none (.load false 1 (.t 87)) (.onb 4), .m 89 0, .mk (some 90) none (.callS 38 [.t 89]) (.keeps [4, 4]), .i 91 (.buildSlice false 32 2 [.t 90]), .i 92 (.append false 32 2 40 (.t 88) (.t 91)), .f 93 1 4, .s 1 93 92]) (.block 4 (.seq (.ops [.m 95 0, .i 96 (.nilCheck (.t 95)), .f 97 0 96, .l 98 97, .i 99 (.bin .eql (.t 98) (.c (.one (.st (.str (ByteArray.mk (#[]))))))), .m 94 99]) (.cond (.t 94) (.ops [.i 100 (.iface 72 (.n 13)), .mk none none (.pan (.t 100)) .no]) (.seq (.ops [.m 102 0, .i 103 (.nilCheck (.t 102)), .f 104 0 103, .l 105 104, .i 106 (.indexStr (.t 105) (.n 0)), .i 107 (.bin .eql (.t 106) (.c (.one (.st (.int .u8 41))))), .m 101 107]) (.cond (.t 101) (.ops [.i 5 (.mov (.c (.one (.st (.bool false)))))]) (.seq (.ops [.m 109 0, .i 110 (.nilCheck (.t 109)), .f 111 0 110, .l 112 111, .i 113 (.indexStr (.t 112) (.n 0)), .i 114 (.bin .neq (.t 113) (.c (.one (.st (.int .u8 44))))), .m 108 114]) (.cond (.t 108) (.ops [.i 115 (.iface 72 (.n 12)), .mk none none (.pan (.t 115)) .no]) .skip)))))))))))))) (.seq (.ops [.m 116 0, .m 117 0, .i 118 (.nilCheck (.t 117)), .f 119 0 118, .l 120 119, .i 121 (.sliceS (.t 120) (some (.n 1)) none), .i 122 (.nilCheck (.t 116)), .f 123 0 122, .s 1 123 121]) (.seq (.ops [.L 124 2 4, .s 2 2 124]) .ret)))))))))))))
theorem B5 : OkF Tryd.prog 38 125 [90] BW [.cell 2 true 2] := .of Tryd.func38 rfl rfl (by kernel_rfl) rfl
def DJ : IR :=
 (.seq (.ops [.i 4 (.mov (.c (.one (.st (.bool false)))))]) (.seq (.ops [.m 5 0, .m 6 1, .i 7 (.call 66 [.t 5, .t 6]), .m 4 7]) .ret))
theorem FS : OkF Tryd.prog 58 8 [] DJ [.t 4] := .of Tryd.func58 rfl rfl (by kernel_rfl) rfl
def BF : IR :=
 (.seq (.ops [.i 4 (.mov (.c (.one (.st (.bool false)))))]) (.seq (.ops [.m 5 0, .i 6 (.len true (.t 5)), .m 7 1, .i 8 (.len true (.t 7)), .i 9 (.bin .geq (.t 6) (.t 8)), .m 10 9, .mk (some 11) (some (10, true)) (.mov (.t 0)) .no, .mk (some 12) (some (10, true)) (.mov (.t 1)) .no, .mk (some 13) (some (10, true)) (.len true (.t 12)) .no, .mk (some 14) (some (10, true)) (.sliceS (.t 11) none (some (.t 13))) .no, .mk (some 15) (some (10, true)) (.mov (.t 1)) .no, .mk (some 16) (some (10, true)) (.bin .eql (.t 14) (.t 15)) .no, .i 17 (.pick (.t 10) (.t 16) (.c (.one (.st (.bool false))))), .m 4 17]) .ret))
theorem Bp : OkF Tryd.prog 66 18 [] BF [.t 4] := .of Tryd.func66 rfl rfl (by kernel_rfl) rfl
def LI : IR :=
 (.seq (.ops [.i 6 (.alloc 32 [.st (.str (ByteArray.mk (#[]))), .full []]), .i 7 (.mov (.n 0)), .i 8 (.mov (.n 0)), .i 9 (.mov (.n 0))]) (.seq (.ops [.m 16 1, .m 10 16]) (.seq (.block 0 (.loop (.seq (.seq (.ops [.m 17 1, .m 18 0, .i 19 (.len true (.t 18)), .i 20 (.bin .lss (.t 17) (.t 19)), .m 21 20, .mk (some 22) (some (21, true)) (.mov (.t 0)) .no, .mk (some 23) (some (21, true)) (.mov (.t 1)) .no, .mk (some 24) (some (21, true)) (.indexStr (.t 22) (.t 23)) .no, .mk (some 25) (some (21, true)) (.call 40 [.t 24]) .no, .i 26 (.pick (.t 21) (.t 25) (.c (.one (.st (.bool false)))))]) (.cond (.t 26) .skip (.exit 0))) (.block 1 (.ops [.m 27 1, .i 28 (.bin .add (.t 27) (.n 1)), .m 1 28]))))) (.seq (.seq (.ops [.m 29 1, .m 30 10, .i 31 (.bin .eql (.t 29) (.t 30))]) (.cond (.t 31) (.seq (.seq (.ops [.m 32 1, .m 33 0, .i 34 (.len true (.t 33)), .i 35 (.bin .eql (.t 32) (.t 34))]) (.cond (.t 35) (.seq (.ops [.i 36 (.build [.st (.str (ByteArray.mk (#[]))), .full []] []), .m 37 1, .m 38 2, .s 2 6 36, .m 7 37, .m 8 38, .i 9 (.mov (.n 13))]) .ret) .skip)) (.seq (.ops [.i 39 (.build [.st (.str (ByteArray.mk (#[]))), .full []] []), .m 40 1, .m 41 2, .s 2 6 39, .m 7 40, .m 8 41, .i 9 (.mov (.n 12))]) .ret)) .skip)) (.seq (.ops [.m 42 0, .m 43 10, .m 44 1, .i 45 (.sliceS (.t 42) (some (.t 43)) (some (.t 44))), .i 46 (.build [.st (.str (ByteArray.mk (#[]))), .full []] [(0, 1, .t 45)]), .i 11 (.alloc 32 [.st (.str (ByteArray.mk (#[]))), .full []]), .s 2 11 46]) (.seq (.seq (.ops [.f 47 0 11, .l 48 47, .i 49 (.call 41 [.t 48]), .i 50 (.un .not (.t 49))]) (.cond (.t 50) (.seq (.ops [.L 51 2 11, .m 52 1, .m 53 2, .s 2 6 51, .m 7 52, .m 8 53, .i 9 (.mov (.n 1))]) .ret) .skip)) (.seq (.ops [.m 54 2, .i 55 (.bin .add (.t 54) (.n 1)), .m 2 55]) (.seq (.seq (.ops [.m 56 2, .i 57 (.bin .gtr (.t 56) (.n 200))]) (.cond (.t 57) (.seq (.ops [.L 58 2 11, .m 59 1, .m 60 2, .s 2 6 58, .m 7 59, .m 8 60, .i 9 (.mov (.n 3))]) .ret) .skip)) (.seq (.seq (.ops [.m 61 1, .m 62 0, .i 63 (.len true (.t 62)), .i 64 (.bin .eql (.t 61) (.t 63)), .m 65 64, .mk (some 66) (some (65, false)) (.mov (.t 0)) .no, .mk (some 67) (some (65, false)) (.mov (.t 1)) .no, .mk (some 68) (some (65, false)) (.indexStr (.t 66) (.t 67)) .no, .mk (some 69) (some (65, false)) (.bin .neq (.t 68) (.c (.one (.st (.int .u8 40))))) .no, .i 70 (.pick (.t 65) (.c (.one (.st (.bool true)))) (.t 69))]) (.cond (.t 70) (.seq (.ops [.L 71 2 11, .m 72 1, .m 73 2, .s 2 6 71, .m 7 72, .m 8 73, .i 9 (.mov (.n 0))]) .ret) .skip)) (.seq (.seq (.ops [.f 74 0 11, .l 75 74, .i 76 (.call 42 [.t 75])]) (.cond (.t 76) (.seq (.ops [.L 77 2 11, .m 78 1, .m 79 2, .s 2 6 77, .m 7 78, .m 8 79, .i 9 (.mov (.n 2))]) .ret) .skip)) (.block 2 (.loop (.block 3 (.seq (.ops [.m 81 0, .m 82 1, .i 83 (.bin .add (.t 82) (.n 1)), .m 84 2, .i 85 (.call 19 [.t 81, .t 83, .t 84]), .m 80 85, .i 86 (.extract 0 (.t 80)), .i 87 (.extract 1 (.t 80)), .i 88 (.extract 2 (.t 80)), .i 89 (.extract 3 (.t 80)), .i 12 (.alloc 32 [.st (.str (ByteArray.mk (#[]))), .full []]), .s 2 12 86, .m 13 87, .m 14 88, .m 15 89]) (.seq (.seq (.ops [.m 90 15, .i 91 (.bin .neq (.t 90) (.n 0))]) (.cond (.t 91) (.seq (.ops [.L 92 2 11, .m 93 13, .m 94 14, .m 95 15, .s 2 6 92, .m 7 93, .m 8 94, .m 9 95]) .ret) .skip)) (.seq (.ops [.f 96 1 11, .l 97 96, .L 98 2 12, .i 99 (.buildSlice false 32 2 [.t 98]), .i 100 (.append false 32 2 40 (.t 97) (.t 99)), .f 101 1 11, .s 1 101 100]) (.seq (.ops [.m 102 13, .m 1 102]) (.seq (.ops [.m 103 14, .m 2 103]) (.seq (.seq (.ops [.m 104 1, .m 105 0, .i 106 (.len true (.t 105)), .i 107 (.bin .eql (.t 104) (.t 106))]) (.cond (.t 107) (.seq (.ops [.L 108 2 11, .m 109 1, .m 110 2, .s 2 6 108, .m 7 109, .m 8 110, .i 9 (.mov (.n 13))]) .ret) .skip)) (.seq (.seq (.ops [.m 111 0, .m 112 1, .i 113 (.indexStr (.t 111) (.t 112)), .i 114 (.bin .eql (.t 113) (.c (.one (.st (.int .u8 41)))))]) (.cond (.t 114) (.seq (.ops [.L 115 2 11, .m 116 1, .i 117 (.bin .add (.t 116) (.n 1)), .m 118 2, .s 2 6 115, .m 7 117, .m 8 118, .i 9 (.mov (.n 0))]) .ret) .skip)) (.seq (.ops [.m 119 0, .m 120 1, .i 121 (.indexStr (.t 119) (.t 120)), .i 122 (.bin .neq (.t 121) (.c (.one (.st (.int .u8 44)))))]) (.cond (.t 122) (.seq (.ops [.L 123 2 11, .m 124 1, .m 125 2, .s 2 6 123, .m 7 124, .m 8 125, .i 9 (.mov (.n 12))]) .ret) .skip))))))))))))))))))))))
theorem P8 : OkF Tryd.prog 19 126 [] LI [.cell 6 true 2, .t 7, .t 8, .t 9] := .of Tryd.func19 rfl rfl (by kernel_rfl) rfl
def Kk : IR :=
 (.seq (.ops [.i 2 (.alloc 32 [.st (.str (ByteArray.mk (#[]))), .full []]), .i 3 (.mov (.n 0))]) (.seq (.seq (.ops [.m 8 0, .i 9 (.len true (.t 8)), .i 10 (.bin .gtr (.t 9) (.n 4000))]) (.cond (.t 10) (.seq (.ops [.i 11 (.build [.st (.str (ByteArray.mk (#[]))), .full []] []), .s 2 2 11, .i 3 (.mov (.n 3))]) .ret) .skip)) (.seq (.ops [.m 13 0, .i 14 (.call 19 [.t 13, .n 0, .n 0]), .m 12 14, .i 15 (.extract 0 (.t 12)), .i 16 (.extract 1 (.t 12)), .i 17 (.extract 2 (.t 12)), .i 18 (.extract 3 (.t 12)), .i 4 (.alloc 32 [.st (.str (ByteArray.mk (#[]))), .full []]), .s 2 4 15, .m 5 16, .m 6 17, .m 7 18]) (.seq (.seq (.ops [.m 19 7, .i 20 (.bin .eql (.t 19) (.n 0)), .m 21 20, .mk (some 22) (some (21, true)) (.mov (.t 5)) .no, .mk (some 23) (some (21, true)) (.mov (.t 0)) .no, .mk (some 24) (some (21, true)) (.len true (.t 23)) .no, .mk (some 25) (some (21, true)) (.bin .lss (.t 22) (.t 24)) .no, .i 26 (.pick (.t 21) (.t 25) (.c (.one (.st (.bool false)))))]) (.cond (.t 26) (.ops [.i 7 (.mov (.n 12))]) .skip)) (.seq (.seq (.ops [.m 27 7, .i 28 (.bin .neq (.t 27) (.n 0))]) (.cond (.t 28) (.seq (.ops [.i 29 (.build [.st (.str (ByteArray.mk (#[]))), .full []] []), .m 30 7, .s 2 2 29, .m 3 30]) .ret) .skip)) (.seq (.ops [.L 31 2 4, .s 2 2 31, .i 3 (.mov (.n 0))]) .ret))))))
theorem Pg : OkF Tryd.prog 10 32 [] Kk [.cell 2 true 2, .t 3] := .of Tryd.func10 rfl rfl (by kernel_rfl) rfl
def H_ : IR :=
 (.seq (.ops [.i 5 .never, .i 6 .never, .m 4 6, .i 7 (.extract 0 (.t 4)), .i 8 (.extract 1 (.t 4)), .m 2 7, .m 3 8]) (.seq (.ops [.m 9 3]) (.cond (.t 9) (.ops [.i 10 (.build [.st (.str (ByteArray.mk (#[]))), .full []] []), .m 11 2, .s 2 0 10, .s 1 1 11]) .skip)))
theorem E2 : A_ Tryd.prog 12 [] (Tryd.f37.body.getD .skip) = some H_ := by kernel_rfl
def Jy : IR :=
 (.seq (.ops [.i 2 (.alloc 32 [.st (.str (ByteArray.mk (#[]))), .full []]), .i 3 (.alloc 24 [.st (.int .i64 0)])]) (.seq (.seq (.ops [.m 5 0, .i 6 (.len true (.t 5)), .i 7 (.bin .gtr (.t 6) (.n 4000))]) (.cond (.t 7) (.seq (.ops [.i 8 (.build [.st (.str (ByteArray.mk (#[]))), .full []] []), .s 2 2 8, .mk none none (.store 1 (.t 3) (.n 3)) .no]) .ret) .skip)) (.seq (.ops [.i 9 (.makeFunc 37 [.t 2, .t 3]), .mk none none .never .no]) (.seq (.ops [.m 10 0, .i 11 (.build [.st (.str (ByteArray.mk (#[]))), .st (.int .i64 0)] [(0, 1, .t 10), (1, 1, .n 200)]), .i 12 (.box 76 (.t 11)), .m 4 12]) (.seq (.ops [.m 13 4, .i 14 (.callS 38 [.t 13]), .s 2 2 14]) (.seq (.seq (.ops [.m 15 4, .i 16 (.nilCheck (.t 15)), .f 17 0 16, .l 18 17, .i 19 (.bin .neq (.t 18) (.c (.one (.st (.str (ByteArray.mk (#[])))))))]) (.cond (.t 19) (.ops [.i 20 (.iface 72 (.n 12)), .mk none none (.pan (.t 20)) .no]) .skip)) (.seq (.ops [.L 21 2 2, .s 2 2 21, .mk none none (.store 1 (.t 3) (.n 0)) .no]) .ret)))))))
theorem Jx : A_ Tryd.prog 22 [14] (Tryd.f17.body.getD .skip) = some Jy := by kernel_rfl

def BG (s : ByteArray) (i : Nat) : ByteArray := s.extract i s.size
theorem DD (s : ByteArray) (i : Nat) : (BG s i).size = s.size - i := by
 unfold BG
 rw [ByteArray.size_extract]
 omega
theorem QX (s : ByteArray) : BG s 0 = s := by
 unfold BG
 rw [ByteArray.extract_zero_size]
theorem Ej {s : ByteArray} {i k : Nat} (h : i + k < s.size) : CU (BG s i) k = Ac s (i + k) := by
 unfold CU Ac BG
 rw [ByteArray.data_extract, Array.toList_extract]
 simp only [List.getD_eq_getElem?_getD]
 congr 3
 rw [List.extract_eq_take_drop, List.getElem?_take_of_lt (by omega), List.getElem?_drop]
theorem QW {s : ByteArray} {i n : Nat} (h : i + n ≤ s.size) : (BG s i).extract 0 n = s.extract i (i + n) := by
 unfold BG
 rw [ByteArray.extract_extract]
 congr 1
 omega
theorem tail_drop {s : ByteArray} {i n : Nat} (h : i + n ≤ s.size) : (BG s i).extract n (BG s i).size = BG s (i + n) := by
 rw [DD]
 unfold BG
 rw [ByteArray.extract_extract]
 congr 1
 omega
def OC (s : ByteArray) : Nat → Nat → Nat
 | 0, i => i
 | k + 1, i => if A7 (Ac s i) = true then OC s k (i + 1) else i
def AT (s : ByteArray) (i : Nat) : Nat := OC s (s.size - i) i
theorem Mo {s : ByteArray} {i : Nat} (h : i < s.size) (hl : A7 (Ac s i) = true) : AT s i = AT s (i + 1) := by
 unfold AT
 obtain ⟨k, hk⟩ : ∃ k, s.size - i = k + 1 := ⟨s.size - i - 1, by omega⟩
 rw [hk, show s.size - (i + 1) = k by omega, OC, if_pos hl]
theorem JT {s : ByteArray} {i : Nat} (h : i < s.size) (hl : ¬ A7 (Ac s i) = true) : AT s i = i := by
 unfold AT
 obtain ⟨k, hk⟩ : ∃ k, s.size - i = k + 1 := ⟨s.size - i - 1, by omega⟩
 rw [hk, OC, if_neg hl]
theorem Kg {s : ByteArray} {i : Nat} (h : s.size ≤ i) : AT s i = i := by
 unfold AT
 rw [show s.size - i = 0 by omega]
 rfl
theorem PV (s : ByteArray) : ∀ k i : Nat, i ≤ OC s k i ∧ OC s k i ≤ i + k
 | 0, i => ⟨Nat.le_refl _, Nat.le_refl _⟩
 | k + 1, i => by
  rw [OC]
  split
  ·have := PV s k (i + 1)
   omega
  ·omega
theorem Iv {s : ByteArray} {i : Nat} (h : i ≤ s.size) : i ≤ AT s i ∧ AT s i ≤ s.size := by
 have := PV s (s.size - i) i
 unfold AT
 omega
structure Rd where
 t : Tm
 i : Nat
 k : Nat
 e : Int
mutual
def rd (s : ByteArray) : Nat → Nat → Nat → Rd
 | 0, i, k => ⟨.mk ⟨#[]⟩ [], i, k, 99⟩
 | f + 1, i, k =>
  if AT s i = i then ⟨.mk ⟨#[]⟩ [], i, k, if i = s.size then 13 else 12⟩
  else if A0 (s.extract i (AT s i)) = true then
   if 200 < k + 1 then ⟨.mk (s.extract i (AT s i)) [], AT s i, k + 1, 3⟩
   else if AT s i = s.size ∨ Ac s (AT s i) ≠ 40 then ⟨.mk (s.extract i (AT s i)) [], AT s i, k + 1, 0⟩
   else if AQ (s.extract i (AT s i)) = true then ⟨.mk (s.extract i (AT s i)) [], AT s i, k + 1, 2⟩
   else rdA s f (s.extract i (AT s i)) [] (AT s i) (k + 1)
  else ⟨.mk (s.extract i (AT s i)) [], AT s i, k, 1⟩
def rdA (s : ByteArray) : Nat → ByteArray → List Tm → Nat → Nat → Rd
 | 0, n, acc, i, k => ⟨.mk ⟨#[]⟩ [], i, k, 99⟩
 | f + 1, n, acc, i, k =>
  if (rd s f (i + 1) k).e = 0 then
   if (rd s f (i + 1) k).i = s.size then ⟨.mk n (acc ++ [(rd s f (i + 1) k).t]), (rd s f (i + 1) k).i, (rd s f (i + 1) k).k, 13⟩
   else if Ac s (rd s f (i + 1) k).i = 41 then ⟨.mk n (acc ++ [(rd s f (i + 1) k).t]), (rd s f (i + 1) k).i + 1, (rd s f (i + 1) k).k, 0⟩
   else if Ac s (rd s f (i + 1) k).i = 44 then rdA s f n (acc ++ [(rd s f (i + 1) k).t]) (rd s f (i + 1) k).i (rd s f (i + 1) k).k
   else ⟨.mk n (acc ++ [(rd s f (i + 1) k).t]), (rd s f (i + 1) k).i, (rd s f (i + 1) k).k, 12⟩
  else ⟨.mk n acc, (rd s f (i + 1) k).i, (rd s f (i + 1) k).k, (rd s f (i + 1) k).e⟩
end
structure Ut (s : ByteArray) (i k : Nat) (r : Rd) : Prop where
 le : i ≤ r.i
 in_ : r.i ≤ s.size
 knots : k ≤ r.k
 most : r.k ≤ 201
 ok : r.e = 0 → i < r.i ∧ r.k ≤ 200 ∧ k < r.k ∧ r.t.size ≤ r.k - k
 err : 0 ≤ r.e ∧ r.e ≤ 13
structure Uo (s : ByteArray) (acc : List Tm) (i k : Nat) (r : Rd) : Prop where
 le : i ≤ r.i
 in_ : r.i ≤ s.size
 knots : k ≤ r.k
 most : r.k ≤ 201
 ok : r.e = 0 → i < r.i ∧ r.k ≤ 200 ∧ k < r.k ∧ r.t.size ≤ (r.k - k) + (1 + Tm.sizes acc)
 err : 0 ≤ r.e ∧ r.e ≤ 13
theorem Il (xs : List Tm) (a : Tm) : Tm.sizes (xs ++ [a]) = Tm.sizes xs + a.size := by
 rw [Tm.sizes_append]
 simp [Tm.sizes]
mutual
theorem Ov (s : ByteArray) : ∀ f i k : Nat, i ≤ s.size → k ≤ 200 → 2 * (s.size - i) < f → Ut s i k (rd s f i k)
 | 0, i, k, _, _, h => absurd h (Nat.not_lt_zero _)
 | f + 1, i, k, hi, hk, hf => by
  obtain ⟨l1, l2⟩ := Iv hi
  rw [rd]
  by_cases h0 : AT s i = i
  ·rw [if_pos h0]
   by_cases h1 : i = s.size
   ·rw [if_pos h1]
    exact ⟨Nat.le_refl _, hi, Nat.le_refl _, by show k ≤ 201; omega, fun h => absurd h (by show ¬ (13 : Int) = 0; decide), by show (0 : Int) ≤ 13 ∧ (13 : Int) ≤ 13; decide⟩
   ·rw [if_neg h1]
    exact ⟨Nat.le_refl _, hi, Nat.le_refl _, by show k ≤ 201; omega, fun h => absurd h (by show ¬ (12 : Int) = 0; decide), by show (0 : Int) ≤ 12 ∧ (12 : Int) ≤ 13; decide⟩
  ·rw [if_neg h0]
   by_cases h1 : A0 (s.extract i (AT s i)) = true
   ·rw [if_pos h1]
    by_cases h2 : 200 < k + 1
    ·rw [if_pos h2]
     exact ⟨l1, l2, Nat.le_succ _, by show k + 1 ≤ 201; omega, fun h => absurd h (by show ¬ (3 : Int) = 0; decide), by show (0 : Int) ≤ 3 ∧ (3 : Int) ≤ 13; decide⟩
    ·rw [if_neg h2]
     by_cases h3 : AT s i = s.size ∨ Ac s (AT s i) ≠ 40
     ·rw [if_pos h3]
      exact ⟨l1, l2, Nat.le_succ _, by show k + 1 ≤ 201; omega, fun _ => ⟨by show i < AT s i; omega, by show k + 1 ≤ 200; omega, Nat.lt_succ_self _, by show (Tm.mk _ []).size ≤ k + 1 - k; simp [Tm.size, Tm.sizes]⟩, by show (0 : Int) ≤ 0 ∧ (0 : Int) ≤ 13; decide⟩
     ·rw [if_neg h3]
      by_cases h4 : AQ (s.extract i (AT s i)) = true
      ·rw [if_pos h4]
       exact ⟨l1, l2, Nat.le_succ _, by show k + 1 ≤ 201; omega, fun h => absurd h (by show ¬ (2 : Int) = 0; decide), by show (0 : Int) ≤ 2 ∧ (2 : Int) ≤ 13; decide⟩
      ·rw [if_neg h4]
       have hlt : AT s i < s.size := by
        have : AT s i ≠ s.size := fun h => h3 (.inl h)
        omega
       have := SC s f (s.extract i (AT s i)) [] (AT s i) (k + 1) hlt (by omega) (by omega)
       refine ⟨Nat.le_trans l1 this.le, this.in_, by have := this.knots; omega, this.most, fun h => ?_, this.err⟩
       obtain ⟨q1, q2, q3, q4⟩ := this.ok h
       simp only [Tm.sizes] at q4
       exact ⟨by omega, q2, by omega, by omega⟩
   ·rw [if_neg h1]
    exact ⟨l1, l2, Nat.le_refl _, by show k ≤ 201; omega, fun h => absurd h (by show ¬ (1 : Int) = 0; decide), by show (0 : Int) ≤ 1 ∧ (1 : Int) ≤ 13; decide⟩
theorem SC (s : ByteArray) : ∀ (f : Nat) (n : ByteArray) (acc : List Tm) (i k : Nat), i < s.size → k ≤ 200 → 2 * (s.size - i) ≤ f → Uo s acc i k (rdA s f n acc i k)
 | 0, n, acc, i, k, hi, _, h => by omega
 | f + 1, n, acc, i, k, hi, hk, hf => by
  have h := Ov s f (i + 1) k (by omega) hk (by omega)
  have hle := h.le
  have hin := h.in_
  have hkn := h.knots
  have hmo := h.most
  rw [rdA]
  generalize rd s f (i + 1) k = r at *
  by_cases h0 : r.e = 0
  ·obtain ⟨o1, o2, o3, o4⟩ := h.ok h0
   rw [if_pos h0]
   by_cases h1 : r.i = s.size
   ·rw [if_pos h1]
    exact ⟨by show i ≤ r.i; omega, hin, hkn, hmo, fun h => absurd h (by show ¬ (13 : Int) = 0; decide), by show (0 : Int) ≤ 13 ∧ (13 : Int) ≤ 13; decide⟩
   ·rw [if_neg h1]
    by_cases h2 : Ac s r.i = 41
    ·rw [if_pos h2]
     refine ⟨by show i ≤ r.i + 1; omega, by show r.i + 1 ≤ s.size; omega, hkn, hmo, fun _ => ⟨by show i < r.i + 1; omega, o2, o3, ?_⟩, by show (0 : Int) ≤ 0 ∧ (0 : Int) ≤ 13; decide⟩
     show 1 + Tm.sizes (acc ++ [r.t]) ≤ _
     rw [Il]
     show _ ≤ r.k - k + _
     omega
    ·rw [if_neg h2]
     by_cases h3 : Ac s r.i = 44
     ·rw [if_pos h3]
      have := SC s f n (acc ++ [r.t]) r.i r.k (by omega) o2 (by omega)
      refine ⟨by have := this.le; omega, this.in_, by have := this.knots; omega, this.most, fun h => ?_, this.err⟩
      obtain ⟨q1, q2, q3, q4⟩ := this.ok h
      rw [Il] at q4
      exact ⟨by omega, q2, by omega, by omega⟩
     ·rw [if_neg h3]
      exact ⟨by show i ≤ r.i; omega, hin, hkn, hmo, fun h => absurd h (by show ¬ (12 : Int) = 0; decide), by show (0 : Int) ≤ 12 ∧ (12 : Int) ≤ 13; decide⟩
  ·rw [if_neg h0]
   exact ⟨by show i ≤ r.i; omega, hin, hkn, hmo, fun h => absurd h h0, h.err⟩
end
def rdS (s : ByteArray) : Rd := rd s (2 * s.size + 1) 0 0
def DU (s : ByteArray) : Tm × Int := if 4000 < s.size then (.mk ⟨#[]⟩ [], 3) else if (rdS s).e = 0 then (if (rdS s).i < s.size then (.mk ⟨#[]⟩ [], 12) else ((rdS s).t, 0)) else (.mk ⟨#[]⟩ [], (rdS s).e)

theorem IWP.cut {P : Program} {C : Ctx} {mu : List Nat} {Q : AX → AS → Prop} {s : AS} {x : IR} (id : Nat) (M : AS → Prop) (h1 : IWP P C mu x (fun e s => e = .exit id ∧ M s) s) (h2 : ∀ s, M s → Q (.exit id) s) : IWP P C mu x Q s :=
 h1.mono fun e s h => by
  obtain ⟨rfl, hm⟩ := h
  exact h2 s hm
abbrev GS : AJ := .box 32 [.st (.str ⟨#[]⟩), .full []]
def rdV (r : Rd) : AV := .tup [aTm r.t, AR r.i, AR r.k, AR r.e]
theorem Om {s : ByteArray} {f i k : Nat} (h0 : AT s i = i) : rd s (f + 1) i k = ⟨.mk ⟨#[]⟩ [], i, k, if i = s.size then 13 else 12⟩ := by rw [rd, if_pos h0]
theorem PB {s : ByteArray} {f i k : Nat} (h0 : ¬ AT s i = i) (h1 : ¬ A0 (s.extract i (AT s i)) = true) : rd s (f + 1) i k = ⟨.mk (s.extract i (AT s i)) [], AT s i, k, 1⟩ := by rw [rd, if_neg h0, if_neg h1]
theorem Nb {s : ByteArray} {f i k : Nat} (h0 : ¬ AT s i = i) (h1 : A0 (s.extract i (AT s i)) = true) (h2 : 200 < k + 1) : rd s (f + 1) i k = ⟨.mk (s.extract i (AT s i)) [], AT s i, k + 1, 3⟩ := by rw [rd, if_neg h0, if_pos h1, if_pos h2]
theorem LU {s : ByteArray} {f i k : Nat} (h0 : ¬ AT s i = i) (h1 : A0 (s.extract i (AT s i)) = true) (h2 : ¬ 200 < k + 1) (h3 : AT s i = s.size ∨ Ac s (AT s i) ≠ 40) : rd s (f + 1) i k = ⟨.mk (s.extract i (AT s i)) [], AT s i, k + 1, 0⟩ := by rw [rd, if_neg h0, if_pos h1, if_neg h2, if_pos h3]
theorem Oz {s : ByteArray} {f i k : Nat} (h0 : ¬ AT s i = i) (h1 : A0 (s.extract i (AT s i)) = true) (h2 : ¬ 200 < k + 1) (h3 : ¬ (AT s i = s.size ∨ Ac s (AT s i) ≠ 40)) (h4 : AQ (s.extract i (AT s i)) = true) : rd s (f + 1) i k = ⟨.mk (s.extract i (AT s i)) [], AT s i, k + 1, 2⟩ := by rw [rd, if_neg h0, if_pos h1, if_neg h2, if_neg h3, if_pos h4]
theorem PC {s : ByteArray} {f i k : Nat} (h0 : ¬ AT s i = i) (h1 : A0 (s.extract i (AT s i)) = true) (h2 : ¬ 200 < k + 1) (h3 : ¬ (AT s i = s.size ∨ Ac s (AT s i) ≠ 40)) (h4 : ¬ AQ (s.extract i (AT s i)) = true) : rd s (f + 1) i k = rdA s f (s.extract i (AT s i)) [] (AT s i) (k + 1) := by rw [rd, if_neg h0, if_pos h1, if_neg h2, if_neg h3, if_neg h4]
theorem O0 {s : ByteArray} {f : Nat} {n : ByteArray} {acc : List Tm} {i k : Nat} (h : ¬ (rd s f (i + 1) k).e = 0) : rdA s (f + 1) n acc i k = ⟨.mk n acc, (rd s f (i + 1) k).i, (rd s f (i + 1) k).k, (rd s f (i + 1) k).e⟩ := by rw [rdA, if_neg h]
theorem KZ {s : ByteArray} {f : Nat} {n : ByteArray} {acc : List Tm} {i k : Nat} (h : (rd s f (i + 1) k).e = 0) (h1 : (rd s f (i + 1) k).i = s.size) : rdA s (f + 1) n acc i k = ⟨.mk n (acc ++ [(rd s f (i + 1) k).t]), (rd s f (i + 1) k).i, (rd s f (i + 1) k).k, 13⟩ := by rw [rdA, if_pos h, if_pos h1]
theorem KF {s : ByteArray} {f : Nat} {n : ByteArray} {acc : List Tm} {i k : Nat} (h : (rd s f (i + 1) k).e = 0) (h1 : ¬ (rd s f (i + 1) k).i = s.size) (h2 : Ac s (rd s f (i + 1) k).i = 41) : rdA s (f + 1) n acc i k = ⟨.mk n (acc ++ [(rd s f (i + 1) k).t]), (rd s f (i + 1) k).i + 1, (rd s f (i + 1) k).k, 0⟩ := by rw [rdA, if_pos h, if_neg h1, if_pos h2]
theorem R_ {s : ByteArray} {f : Nat} {n : ByteArray} {acc : List Tm} {i k : Nat} (h : (rd s f (i + 1) k).e = 0) (h1 : ¬ (rd s f (i + 1) k).i = s.size) (h2 : ¬ Ac s (rd s f (i + 1) k).i = 41) (h3 : Ac s (rd s f (i + 1) k).i = 44) : rdA s (f + 1) n acc i k = rdA s f n (acc ++ [(rd s f (i + 1) k).t]) (rd s f (i + 1) k).i (rd s f (i + 1) k).k := by rw [rdA, if_pos h, if_neg h1, if_neg h2, if_pos h3]
theorem Mc {s : ByteArray} {f : Nat} {n : ByteArray} {acc : List Tm} {i k : Nat} (h : (rd s f (i + 1) k).e = 0) (h1 : ¬ (rd s f (i + 1) k).i = s.size) (h2 : ¬ Ac s (rd s f (i + 1) k).i = 41) (h3 : ¬ Ac s (rd s f (i + 1) k).i = 44) : rdA s (f + 1) n acc i k = ⟨.mk n (acc ++ [(rd s f (i + 1) k).t]), (rd s f (i + 1) k).i, (rd s f (i + 1) k).k, 12⟩ := by rw [rdA, if_pos h, if_neg h1, if_neg h2, if_neg h3]
theorem De (acc : List Tm) (a : Tm) : (acc ++ [a]).map Ay = acc.map Ay ++ [[.str a.name, .list (a.args.map Ay)]] := by
 rw [List.map_append, List.map_cons, List.map_nil, CS a]
theorem UI (s : ByteArray) (hs : s.size ≤ 100000) : ∀ f i k : Nat, i ≤ s.size → k ≤ 200 → 2 * (s.size - i) < f → Aa Tryd.prog 19 [Bg s, AR i, AR k] (rdV (rd s f i k)) := by
 intro f
 induction f using Nat.strongRecOn with
 | _ f ih =>
 intro i k hi hk hf
 obtain ⟨f, rfl⟩ : ∃ g, f = g + 1 := ⟨f - 1, by omega⟩
 obtain ⟨l1, l2⟩ := Iv hi
 refine P8.ac fun C hC => ?_
 unfold LI
 repeat' with_reducible first | refine W ?_ | refine Z0 ?_ | ((first | refine Wo fun K hK => ?_ | refine Wp ?_ | refine Wq ?_ | refine Wr ?_); (try simp only [go_sem, fN, seval, eT, iR, dT, dF, nL]); (repeat refine Ai ?_); (try (refine hK _ ?_; clear hK K)); try refine iC ?_)
 refine IWP.cut 0 (fun x => x.env 0 = Bg s ∧ x.env 1 = AR (AT s i) ∧ x.env 2 = AR k ∧ x.env 10 = AR i ∧ x.env 6 = .one (.ptr 6 1 0 0) ∧ x.S 6 = some GS ∧ x.S 11 = none ∧ x.S 12 = none ∧ x.S 900 = none) ?_ ?_
 ·refine IWP.loop (fun m x => ∃ j, i ≤ j ∧ j ≤ s.size ∧ m = s.size - j ∧ AT s i = AT s j ∧ x.env 0 = Bg s ∧ x.env 1 = AR j ∧ x.env 2 = AR k ∧ x.env 10 = AR i ∧ x.env 6 = .one (.ptr 6 1 0 0) ∧ x.S 6 = some GS ∧ x.S 11 = none ∧ x.S 12 = none ∧ x.S 900 = none) (s.size - i) ⟨i, Nat.le_refl _, hi, rfl, rfl, rfl, rfl, rfl, rfl, rfl, rfl, rfl, rfl, rfl⟩ ?_
  rintro m ⟨env, S⟩ ⟨j, hij, hj, rfl, hl, e0, e1, e2, e10, e6, s6, s11, s12, s900⟩
  simp only at e0 e1 e2 e10 e6 s6 s11 s12 s900
  by_cases hlt : (j : Int) < s.size
  ·have hb := DZ s j
   by_cases hlet : A7 (CU s j) = true
   ·repeat' (first | (with_reducible first | refine W ?_ | refine Z0 ?_ | ((first | refine Wo fun K hK => ?_ | refine Wp ?_ | refine Wq ?_ | refine Wr ?_); (try simp only [go_sem, fN, seval, eT, iR, e0, e1, e2, e10, e6, s6, hlt, hlet, dT, dF, nL]); (repeat refine Ai ?_); (try (refine hK _ ?_; clear hK K)); try refine iC ?_)) | refine Cg _ (GJ (CU s j) hb.1) ?_)
    refine AG ⟨s.size - (j + 1), by omega, j + 1, by omega, by omega, rfl, ?_, ?_⟩
    ·rw [hl]
     exact Mo (by omega) hlet
    ·simp only [go_sem, fN, seval, eT, iR, e0, e1, e2, e10, e6, s6, s11, s12, s900]
     congr 3
   ·have hst : AT s j = j := JT (by omega) hlet
    repeat' (first | (with_reducible first | refine W ?_ | refine Z0 ?_ | ((first | refine Wo fun K hK => ?_ | refine Wp ?_ | refine Wq ?_ | refine Wr ?_); (try simp only [go_sem, fN, seval, eT, iR, e0, e1, e2, e10, e6, s6, hlt, hlet, dT, dF, nL]); (repeat refine Ai ?_); (try (refine hK _ ?_; clear hK K)); try refine iC ?_)) | refine Cg _ (GJ (CU s j) hb.1) ?_)
    refine ⟨rfl, ?_⟩
    simp only [go_sem, fN, seval, eT, iR, e0, e1, e2, e10, e6, s6, s11, s12, s900]
    rw [hl, hst]
  ·have hst : AT s j = j := Kg (by omega)
   repeat' with_reducible first | refine W ?_ | refine Z0 ?_ | ((first | refine Wo fun K hK => ?_ | refine Wp ?_ | refine Wq ?_ | refine Wr ?_); (try simp only [go_sem, fN, seval, eT, iR, e0, e1, e2, e10, e6, s6, hlt, dT, dF, nL]); (repeat refine Ai ?_); (try (refine hK _ ?_; clear hK K)); try refine iC ?_)
   refine ⟨rfl, ?_⟩
   simp only [go_sem, fN, seval, eT, iR, e0, e1, e2, e10, e6, s6, s11, s12, s900]
   rw [hl, hst]
 rintro ⟨env, S⟩ ⟨e0, e1, e2, e10, e6, s6, s11, s12, s900⟩
 simp only at e0 e1 e2 e10 e6 s6 s11 s12 s900
 by_cases h0 : AT s i = i
 ·rw [Om h0]
  rw [h0] at e1
  unfold rdV
  by_cases hsz : i = s.size
  ·have hszi : (i : Int) = s.size := by omega
   rw [if_pos hsz]
   repeat' with_reducible first | refine W ?_ | refine Z0 ?_ | ((first | refine Wo fun K hK => ?_ | refine Wp ?_ | refine Wq ?_ | refine Wr ?_); (try simp only [go_sem, fN, seval, eT, iR, e0, e1, e2, e10, e6, s6, hszi, dT, dF, nL]); (repeat refine Ai ?_); (try (refine hK _ ?_; clear hK K)); try refine iC ?_)
   simp only [go_sem, fN, seval, AO, AS.result, AB, AD, AI, e6, s6]
   rfl
  ·have hszi : ¬ (i : Int) = s.size := by omega
   rw [if_neg hsz]
   repeat' with_reducible first | refine W ?_ | refine Z0 ?_ | ((first | refine Wo fun K hK => ?_ | refine Wp ?_ | refine Wq ?_ | refine Wr ?_); (try simp only [go_sem, fN, seval, eT, iR, e0, e1, e2, e10, e6, s6, hszi, dT, dF, nL]); (repeat refine Ai ?_); (try (refine hK _ ?_; clear hK K)); try refine iC ?_)
   simp only [go_sem, fN, seval, AO, AS.result, AB, AD, AI, e6, s6]
   rfl
 have h0i : ¬ ((AT s i : Nat) : Int) = i := by omega
 by_cases h1 : A0 (s.extract i (AT s i)) = true
 case neg =>
  rw [PB h0 h1]
  unfold rdV
  repeat' (first | (with_reducible first | refine W ?_ | refine Z0 ?_ | ((first | refine Wo fun K hK => ?_ | refine Wp ?_ | refine Wq ?_ | refine Wr ?_); (try simp only [go_sem, fN, seval, eT, iR, e0, e1, e2, e10, e6, s6, s11, h0i, h1, dT, dF, nL]); (repeat refine Ai ?_); (try (refine hK _ ?_; clear hK K)); try refine iC ?_)) | refine Cg _ (ED (s.extract i (AT s i))) ?_)
  simp only [go_sem, fN, seval, AO, AS.result, AB, AD, AI, e6, s6]
  rfl
 case pos =>
 by_cases h2 : 200 < k + 1
 ·have h2i : (200 : Int) < k + 1 := by omega
  rw [Nb h0 h1 h2]
  unfold rdV
  repeat' (first | (with_reducible first | refine W ?_ | refine Z0 ?_ | ((first | refine Wo fun K hK => ?_ | refine Wp ?_ | refine Wq ?_ | refine Wr ?_); (try simp only [go_sem, fN, seval, eT, iR, e0, e1, e2, e10, e6, s6, s11, h0i, h1, h2i, dT, dF, nL]); (repeat refine Ai ?_); (try (refine hK _ ?_; clear hK K)); try refine iC ?_)) | refine Cg _ (ED (s.extract i (AT s i))) ?_)
  simp only [go_sem, fN, seval, AO, AS.result, AB, AD, AI, e6, s6]
  rfl
 have h2i : ¬ (200 : Int) < k + 1 := by omega
 by_cases h3 : AT s i = s.size
 ·have h3i : ((AT s i : Nat) : Int) = s.size := by omega
  have h0s : ¬ (s.size : Int) = i := by omega
  rw [LU h0 h1 h2 (.inl h3)]
  unfold rdV
  rw [h3] at h1 e1
  rw [h3]
  repeat' (first | (with_reducible first | refine W ?_ | refine Z0 ?_ | ((first | refine Wo fun K hK => ?_ | refine Wp ?_ | refine Wq ?_ | refine Wr ?_); (try simp only [go_sem, fN, seval, eT, iR, e0, e1, e2, e10, e6, s6, s11, h0s, h1, h2i, dT, dF, nL]); (repeat refine Ai ?_); (try (refine hK _ ?_; clear hK K)); try refine iC ?_)) | refine Cg _ (ED (s.extract i s.size)) ?_)
  simp only [go_sem, fN, seval, AO, AS.result, AB, AD, AI, e6, s6]
  rfl
 have h3i : ¬ ((AT s i : Nat) : Int) = s.size := by omega
 by_cases h3' : CU s (AT s i) = 40
 case neg =>
  rw [LU h0 h1 h2 (.inr h3')]
  unfold rdV
  repeat' (first | (with_reducible first | refine W ?_ | refine Z0 ?_ | ((first | refine Wo fun K hK => ?_ | refine Wp ?_ | refine Wq ?_ | refine Wr ?_); (try simp only [go_sem, fN, seval, eT, iR, e0, e1, e2, e10, e6, s6, s11, h0i, h1, h2i, h3i, h3', dT, dF, nL]); (repeat refine Ai ?_); (try (refine hK _ ?_; clear hK K)); try refine iC ?_)) | refine Cg _ (ED (s.extract i (AT s i))) ?_)
  simp only [go_sem, fN, seval, AO, AS.result, AB, AD, AI, e6, s6]
  rfl
 case pos =>
 have h3n : ¬ (AT s i = s.size ∨ Ac s (AT s i) ≠ 40) := fun h => h.elim h3 (fun h => h h3')
 by_cases h4 : AQ (s.extract i (AT s i)) = true
 ·rw [Oz h0 h1 h2 h3n h4]
  unfold rdV
  repeat' (first | (with_reducible first | refine W ?_ | refine Z0 ?_ | ((first | refine Wo fun K hK => ?_ | refine Wp ?_ | refine Wq ?_ | refine Wr ?_); (try simp only [go_sem, fN, seval, eT, iR, e0, e1, e2, e10, e6, s6, s11, h0i, h1, h2i, h3i, h3', h4, dT, dF, nL]); (repeat refine Ai ?_); (try (refine hK _ ?_; clear hK K)); try refine iC ?_)) | refine Cg _ (ED (s.extract i (AT s i))) ?_ | refine Cg _ (O1 (s.extract i (AT s i))) ?_)
  simp only [go_sem, fN, seval, AO, AS.result, AB, AD, AI, e6, s6]
  rfl
 rw [PC h0 h1 h2 h3n h4]
 have hlt0 : AT s i < s.size := by omega
 have hf0 : 2 * (s.size - AT s i) ≤ f := by omega
 clear h0
 obtain ⟨n, hn⟩ : ∃ n, s.extract i (AT s i) = n := ⟨_, rfl⟩
 rw [hn] at h1 h4 ⊢
 generalize AT s i = to at *
 repeat' (first | (with_reducible first | refine W ?_ | refine Z0 ?_ | ((first | refine Wo fun K hK => ?_ | refine Wp ?_ | refine Wq ?_ | refine Wr ?_); (try simp only [go_sem, fN, seval, eT, iR, e0, e1, e2, e10, e6, s6, s11, h0i, h1, h2i, h3i, h3', h4, hn, dT, dF, nL]); (repeat refine Ai ?_); (try (refine hK _ ?_; clear hK K)); try refine iC ?_)) | refine Cg _ (ED n) ?_ | refine Cg _ (O1 n) ?_)
 refine IWP.ghost (Ae.ownC 11 1 900 32 2 (xs := ([] : List Tm).map Ay) rfl rfl (by simp only [go_sem, fN, seval, eT, iR, s900, s11]) C8) ?_
 refine IWP.loopD [12] (fun m x => ∃ (g : Nat) (acc : List Tm) (j c : Nat), rdA s f n [] to (k + 1) = rdA s g n acc j c ∧ m = s.size - j ∧ 2 * (s.size - j) ≤ g ∧ g ≤ f ∧ j < s.size ∧ c ≤ 200 ∧ acc.length ≤ c ∧ x.env 0 = Bg s ∧ x.env 1 = AR j ∧ x.env 2 = AR c ∧ x.env 6 = .one (.ptr 6 1 0 0) ∧ x.env 11 = .one (.ptr 11 1 0 0) ∧ x.S 6 = some GS ∧ x.S 11 = some (.box 32 [.st (.str n), .row 900 acc.length]) ∧ x.S 900 = some (.arow 32 2 (acc.map Ay)) ∧ x.S 12 = none)
  (s.size - to) ⟨f, [], to, k + 1, rfl, rfl, hf0, Nat.le_refl _, hlt0, by omega, by simp, ?_⟩ ?_
 ·simp only [go_sem, fN, seval, eT, iR, e0, e1, e2, e10, e6, s6, s11, s12, s900]
  exact ⟨by congr 3, rfl⟩
 rintro m ⟨env, S⟩ ⟨g, acc, j, c, hrd, rfl, hg, hgf, hj, hc, hac, e0, e1, e2, e6, e11, s6, s11, s900, s12⟩
 simp only at e0 e1 e2 e6 e11 s6 s11 s900 s12
 rw [hrd]
 obtain ⟨g, rfl⟩ : ∃ g', g = g' + 1 := ⟨g - 1, by omega⟩
 have hcall := ih g (by omega) (j + 1) c (by omega) hc (by omega)
 have hok := Ov s g (j + 1) c (by omega) hc (by omega)
 rw [show ((j + 1 : Nat) : Int) = (j : Int) + 1 by omega] at hcall
 have hle := hok.le
 have hin := hok.in_
 have hal : (acc.map Ay).length = acc.length := List.length_map _
 by_cases q0 : (rd s g (j + 1) c).e = 0
 case neg =>
  rw [O0 q0]
  unfold rdV at hcall ⊢
  repeat' (first | (with_reducible first | refine W ?_ | refine Z0 ?_ | ((first | refine Wo fun K hK => ?_ | refine Wp ?_ | refine Wq ?_ | refine Wr ?_); (try simp only [go_sem, fN, seval, eT, iR, e0, e1, e2, e6, e11, s6, s11, s900, s12, q0, dT, dF, nL]); (repeat refine Ai ?_); (try (refine hK _ ?_; clear hK K)); try refine iC ?_)) | refine Cg _ (hcall) ?_)
  simp only [go_sem, fN, seval, AO, AS.result, AB, AD, AI, e6, s6, s11, s900]
  rfl
 case pos =>
 obtain ⟨o1, o2, o3, o4⟩ := hok.ok q0
 by_cases q1 : (rd s g (j + 1) c).i = s.size
 ·have q1i : (((rd s g (j + 1) c).i : Nat) : Int) = s.size := by omega
  rw [KZ q0 q1]
  unfold rdV at hcall ⊢
  repeat' (first | (with_reducible first | refine W ?_ | refine Z0 ?_ | ((first | refine Wo fun K hK => ?_ | refine Wp ?_ | refine Wq ?_ | refine Wr ?_); (try simp only [go_sem, fN, seval, eT, iR, e0, e1, e2, e6, e11, s6, s11, s900, s12, q0, q1i, dT, dF, nL]); (repeat refine Ai ?_); (try (refine hK _ ?_; clear hK K)); try refine iC ?_)) | refine Cg _ (hcall) ?_)
  simp only [go_sem, fN, seval, AO, AS.result, AB, AD, AI, e6, s6, s11, s900]
  rw [← De]
  rfl
 have q1i : ¬ (((rd s g (j + 1) c).i : Nat) : Int) = s.size := by omega
 by_cases q2 : CU s (rd s g (j + 1) c).i = 41
 ·rw [KF q0 q1 q2]
  unfold rdV at hcall ⊢
  repeat' (first | (with_reducible first | refine W ?_ | refine Z0 ?_ | ((first | refine Wo fun K hK => ?_ | refine Wp ?_ | refine Wq ?_ | refine Wr ?_); (try simp only [go_sem, fN, seval, eT, iR, e0, e1, e2, e6, e11, s6, s11, s900, s12, q0, q1i, q2, dT, dF, nL]); (repeat refine Ai ?_); (try (refine hK _ ?_; clear hK K)); try refine iC ?_)) | refine Cg _ (hcall) ?_)
  simp only [go_sem, fN, seval, AO, AS.result, AB, AD, AI, e6, s6, s11, s900]
  rw [← De]
  rfl
 by_cases q3 : CU s (rd s g (j + 1) c).i = 44
 ·rw [R_ q0 q1 q2 q3]
  unfold rdV at hcall
  repeat' (first | (with_reducible first | refine W ?_ | refine Z0 ?_ | ((first | refine Wo fun K hK => ?_ | refine Wp ?_ | refine Wq ?_ | refine Wr ?_); (try simp only [go_sem, fN, seval, eT, iR, e0, e1, e2, e6, e11, s6, s11, s900, s12, q0, q1i, q2, q3, dT, dF, nL]); (repeat refine Ai ?_); (try (refine hK _ ?_; clear hK K)); try refine iC ?_)) | refine Cg _ (hcall) ?_)
  refine AG ⟨s.size - (rd s g (j + 1) c).i, by omega, g, acc ++ [(rd s g (j + 1) c).t], (rd s g (j + 1) c).i, (rd s g (j + 1) c).k, rfl, rfl, by omega, by omega, by omega, o2, by simp; omega, ?_⟩
  simp only [go_sem, fN, seval, AS.drop, Ap, AC.clears, AC.clear, AC.highs, AC.high, Bool.not_false, Bool.true_and, Bool.and_self, AV.purge, AV.purges, AC.purge, AJ.purge, List.contains_cons, List.contains_nil, Nat.reduceBEq, Bool.or_self, Bool.or_false, Bool.false_or, Bool.or_true, eT, iR, e0, e1, e2, e6, e11, s6, s11, s900, s12]
  rw [De]
 ·rw [Mc q0 q1 q2 q3]
  unfold rdV at hcall ⊢
  repeat' (first | (with_reducible first | refine W ?_ | refine Z0 ?_ | ((first | refine Wo fun K hK => ?_ | refine Wp ?_ | refine Wq ?_ | refine Wr ?_); (try simp only [go_sem, fN, seval, eT, iR, e0, e1, e2, e6, e11, s6, s11, s900, s12, q0, q1i, q2, q3, dT, dF, nL]); (repeat refine Ai ?_); (try (refine hK _ ?_; clear hK K)); try refine iC ?_)) | refine Cg _ (hcall) ?_)
  simp only [go_sem, fN, seval, AO, AS.result, AB, AD, AI, e6, s6, s11, s900]
  rw [← De]
  rfl
def Fy (r : Tm × Int) : AV := .tup [aTm r.1, AR r.2]
theorem PA (s : ByteArray) : Aa Tryd.prog 10 [Bg s] (Fy (DU s)) := by
 have hro : DU s = if 4000 < s.size then (.mk ⟨#[]⟩ [], 3) else if (rdS s).e = 0 then (if (rdS s).i < s.size then (.mk ⟨#[]⟩ [], 12) else ((rdS s).t, 0)) else (.mk ⟨#[]⟩ [], (rdS s).e) := rfl
 refine Pg.ac fun C hC => ?_
 unfold Kk
 by_cases h0 : (4000 : Int) < s.size
 ·rw [hro, if_pos (by omega)]
  unfold Fy
  repeat' with_reducible first | refine W ?_ | refine Z0 ?_ | ((first | refine Wo fun K hK => ?_ | refine Wp ?_ | refine Wq ?_ | refine Wr ?_); (try simp only [go_sem, fN, seval, eT, iR, h0, dT, dF, nL]); (repeat refine Ai ?_); (try (refine hK _ ?_; clear hK K)); try refine iC ?_)
  simp only [go_sem, fN, seval, AO, AS.result, AB, AD, AI]
  rfl
 rw [hro, if_neg (by omega)]
 have hcall := UI s (by omega) (2 * s.size + 1) 0 0 (by omega) (by omega) (by omega)
 have hr : rd s (2 * s.size + 1) 0 0 = rdS s := rfl
 rw [hr] at hcall
 unfold rdV at hcall
 by_cases h1 : (rdS s).e = 0
 ·rw [if_pos h1]
  by_cases h2 : (rdS s).i < s.size
  ·have h2i : ((rdS s).i : Int) < s.size := by omega
   rw [if_pos h2]
   unfold Fy
   repeat' (first | (with_reducible first | refine W ?_ | refine Z0 ?_ | ((first | refine Wo fun K hK => ?_ | refine Wp ?_ | refine Wq ?_ | refine Wr ?_); (try simp only [go_sem, fN, seval, eT, iR, h0, h1, h2i, dT, dF, nL]); (repeat refine Ai ?_); (try (refine hK _ ?_; clear hK K)); try refine iC ?_)) | refine Cg _ (hcall) ?_)
   simp only [go_sem, fN, seval, AO, AS.result, AB, AD, AI]
   rfl
  ·have h2i : ¬ ((rdS s).i : Int) < s.size := by omega
   rw [if_neg h2]
   unfold Fy
   repeat' (first | (with_reducible first | refine W ?_ | refine Z0 ?_ | ((first | refine Wo fun K hK => ?_ | refine Wp ?_ | refine Wq ?_ | refine Wr ?_); (try simp only [go_sem, fN, seval, eT, iR, h0, h1, h2i, dT, dF, nL]); (repeat refine Ai ?_); (try (refine hK _ ?_; clear hK K)); try refine iC ?_)) | refine Cg _ (hcall) ?_)
   simp only [go_sem, fN, seval, AO, AS.result, AB, AD, AI]
 ·rw [if_neg h1]
  unfold Fy
  repeat' (first | (with_reducible first | refine W ?_ | refine Z0 ?_ | ((first | refine Wo fun K hK => ?_ | refine Wp ?_ | refine Wq ?_ | refine Wr ?_); (try simp only [go_sem, fN, seval, eT, iR, h0, h1, dT, dF, nL]); (repeat refine Ai ?_); (try (refine hK _ ?_; clear hK K)); try refine iC ?_)) | refine Cg _ (hcall) ?_)
  simp only [go_sem, fN, seval, AO, AS.result, AB, AD, AI]
  rfl

end Go.Proofs.YtiaopkfapnajaaaDoor
