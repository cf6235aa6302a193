/-
  Part 8 of the texts. Conditions: none.
-/
import Derived.Test.YtgcddcaachpbnaaGreatReR7
import Derived.Shelf.Strconv.Itoa3
import Derived.Shelf.SlSortCmp.WholeK
import Derived.Shelf.SlSortCmp.NoneTotal
import Derived.Test.YtgcddcaachpbnaaGreatProg
namespace Go.Proofs.YtgcddcaachpbnaaGreat
open Go Go.RowKit
set_option linter.unusedVariables false
set_option linter.unusedSimpArgs false
set_option maxHeartbeats 1000000
abbrev RU (vs : List ByteArray) : AJ := .box 31 [.st (.list (vs.map Bj))]
theorem P7 (vs : List ByteArray) (x : ByteArray) (b : Nat) (hb : 1000 ≤ b) (S : AA) (sb : S b = some (RU vs)) : Ak Tryz.prog 65 [CV x, .one (.ptr b 1 0 0)] S (Ah (!B5 x vs)) S := by
 refine Fa.acS fun hS C hC => ?_
 unfold C9
 repeat' (first | (with_reducible first | refine W ?_ | refine Z0 ?_ | ((first | refine Wo fun K hK => ?_ | refine Wp ?_ | refine Wq ?_ | refine Wr ?_); (try simp only [go_sem, fN, seval, eT, iR, sb, dT, dF, nL]); (repeat refine Ai ?_); (try (refine hK _ ?_; clear hK K)); try refine iC ?_)) | refine Cg _ (Fb vs x) ?_)
 refine B3 (Ah (!B5 x vs)) hS trivial ?_ rfl fun _ _ => rfl
 simp [AD, AE, AL, AF]
theorem PY {p : ByteArray → Bool} (xs : List ByteArray) : 0 ≤ (match xs.findIdx? p with | some i => (i : Int) | none => -1) ↔ xs.any p = true := by
 cases h : xs.findIdx? p with
 | some i =>
  rw [List.findIdx?_eq_some_iff_getElem] at h
  obtain ⟨h1, h2, _⟩ := h
  simp only [List.any_eq_true]
  exact ⟨fun _ => ⟨_, List.getElem_mem h1, h2⟩, fun _ => by omega⟩
 | none =>
  rw [List.findIdx?_eq_none_iff] at h
  constructor
  ·intro h'
   exact absurd h' (by decide)
  ·intro h'
   rw [List.any_eq_true] at h'
   obtain ⟨x, hx, hp⟩ := h'
   rw [h x hx] at hp
   cases hp
theorem MU {p : ByteArray → Bool} {xs : List ByteArray} {k : Nat} {x : ByteArray} (hx : xs[k]? = some x) (h : (xs.take k).any p = false) (hp : p x = true) : xs.findIdx? p = some k := by
 obtain ⟨hk, he⟩ := List.getElem?_eq_some_iff.1 hx
 rw [List.findIdx?_eq_some_iff_getElem]
 refine ⟨hk, by rw [he]; exact hp, fun j hj => ?_⟩
 rw [List.any_eq_false] at h
 have := h (xs[j]'(by omega)) (by
  rw [List.mem_take_iff_getElem]
  exact ⟨j, by omega, rfl⟩)
 simpa using this
theorem KL {p : ByteArray → Bool} {xs : List ByteArray} {k : Nat} {x : ByteArray} (hx : xs[k]? = some x) (h : (xs.take k).any p = false) : (xs.take (k + 1)).any p = p x := by
 rw [Am hx, List.any_append, h]
 simp
theorem LA (vs xs : List ByteArray) (hl : xs.length ≤ 9223372036854775807) (b : Nat) (hb : 1000 ≤ b) (S : AA) (sb : S b = some (RU vs)) :
  Ak Tryz.prog 94 [Bm xs, .one (.fn 65 [.ptr b 1 0 0])] S (Ab (match xs.findIdx? (fun x => !B5 x vs) with | some i => (i : Int) | none => -1)) S := by
 refine CK.acS fun hS C hC => ?_
 unfold BQ
 repeat' with_reducible first | refine W ?_ | refine Z0 ?_ | ((first | refine Wo fun K hK => ?_ | refine Wp ?_ | refine Wq ?_ | refine Wr ?_); (try simp only [go_sem, fN, seval, eT, iR, dT, dF, nL]); (repeat refine Ai ?_); (try (refine hK _ ?_; clear hK K)); try refine iC ?_)
 refine IWP.loop (fun n s => ∃ k, k ≤ xs.length ∧ n = xs.length - k ∧ (xs.take k).any (fun x => !B5 x vs) = false ∧ s.env 0 = Bm xs ∧ s.env 1 = .one (.fn 65 [.ptr b 1 0 0]) ∧ s.env 7 = Ab xs.length ∧ s.env 8 = Ab k ∧ s.S = S) xs.length ⟨0, Nat.zero_le _, rfl, rfl, rfl, rfl, rfl, rfl, rfl⟩ ?_
 rintro n ⟨env, S'⟩ ⟨k, hk, rfl, hp, e0, e1, e7, e8, eS⟩
 simp only at e0 e1 e7 e8 eS
 subst eS
 by_cases hlt : (k : Int) < xs.length
 ·obtain ⟨x, hx⟩ := Ac (show k < xs.length by omega)
  have hst := KL (p := fun x => !B5 x vs) hx hp
  have hc := P7 vs x (up1 b) (A9 b) (upS S') (by rw [BW, sb]; rfl)
  repeat' with_reducible first | refine W ?_ | refine Z0 ?_ | ((first | refine Wo fun K hK => ?_ | refine Wp ?_ | refine Wq ?_ | refine Wr ?_); (try simp only [go_sem, fN, seval, eT, iR, e0, e1, e7, e8, hlt, hx, dT, dF, nL]); (repeat refine Ai ?_); (try (refine hK _ ?_; clear hK K)); try refine iC ?_)
  first | refine ⟨by kernel_rfl, _, _, hc, ?_⟩ | refine ⟨_, _, hc, ?_⟩
  by_cases hr : (!B5 x vs) = true
  ·have hi := MU (p := fun x => !B5 x vs) hx hp hr
   repeat' with_reducible first | refine W ?_ | refine Z0 ?_ | ((first | refine Wo fun K hK => ?_ | refine Wp ?_ | refine Wq ?_ | refine Wr ?_); (try simp only [go_sem, fN, seval, eT, iR, e0, e1, e7, e8, hr, dT, dF, nL]); (repeat refine Ai ?_); (try (refine hK _ ?_; clear hK K)); try refine iC ?_)
   refine B3 (Ab k) hS trivial ?_ ?_ fun j hj => ?_
   ·simp [AD, AE, AL, AF]
   ·rw [hi]
    rfl
   ·rfl
  ·have hr' : (!B5 x vs) = false := by simpa using hr
   repeat' with_reducible first | refine W ?_ | refine Z0 ?_ | ((first | refine Wo fun K hK => ?_ | refine Wp ?_ | refine Wq ?_ | refine Wr ?_); (try simp only [go_sem, fN, seval, eT, iR, e0, e1, e7, e8, hr', dT, dF, nL]); (repeat refine Ai ?_); (try (refine hK _ ?_; clear hK K)); try refine iC ?_)
   refine AI ⟨xs.length - (k + 1), by omega, k + 1, by omega, rfl, ?_⟩
   simp only [go_sem, fN, seval, eT, iR, e0, e1, e7, e8]
   exact ⟨by rw [hst]; exact hr', by congr 3⟩
 ·rw [List.take_of_length_le (by omega)] at hp
  have hi : xs.findIdx? (fun x => !B5 x vs) = none := by
   rw [List.findIdx?_eq_none_iff]
   intro x hx
   rw [List.any_eq_false] at hp
   simpa using hp x hx
  repeat' with_reducible first | refine W ?_ | refine Z0 ?_ | ((first | refine Wo fun K hK => ?_ | refine Wp ?_ | refine Wq ?_ | refine Wr ?_); (try simp only [go_sem, fN, seval, eT, iR, e0, e1, e7, e8, hlt, dT, dF, nL]); (repeat refine Ai ?_); (try (refine hK _ ?_; clear hK K)); try refine iC ?_)
  refine B3 (Ab (-1)) hS trivial ?_ ?_ fun j hj => ?_
  ·simp [AD, AE, AL, AF]
  ·rw [hi]
   rfl
  ·rfl
theorem Hd (vs xs : List ByteArray) (hl : xs.length ≤ 9223372036854775807) (b : Nat) (hb : 1000 ≤ b) (S : AA) (sb : S b = some (RU vs)) :
  Ak Tryz.prog 64 [Bm xs, .one (.fn 65 [.ptr b 1 0 0])] S (Ah (xs.any fun x => !B5 x vs)) S := by
 have hi := PY (p := fun x => !B5 x vs) xs
 generalize (xs.any fun x => !B5 x vs) = bb at hi ⊢
 refine B8.acS fun hS C hC => ?_
 unfold BI
 repeat' with_reducible first | refine W ?_ | refine Z0 ?_ | ((first | refine Wo fun K hK => ?_ | refine Wp ?_ | refine Wq ?_ | refine Wr ?_); (try simp only [go_sem, fN, seval, eT, iR, dT, dF, nL]); (repeat refine Ai ?_); (try (refine hK _ ?_; clear hK K)); try refine iC ?_)
 refine ⟨_, _, LA vs xs hl (up1 b) (A9 b) (upS S) (by rw [BW, sb]; rfl), ?_⟩
 generalize (match xs.findIdx? (fun x => !B5 x vs) with | some i => (i : Int) | none => -1) = q at hi
 repeat' with_reducible first | refine W ?_ | refine Z0 ?_ | ((first | refine Wo fun K hK => ?_ | refine Wp ?_ | refine Wq ?_ | refine Wr ?_); (try simp only [go_sem, fN, seval, eT, iR, hi, dT, dF, nL]); (repeat refine Ai ?_); (try (refine hK _ ?_; clear hK K)); try refine iC ?_)
 refine B3 (Ah bb) hS trivial ?_ ?_ fun j hj => ?_
 ·simp [AD, AE, AL, AF]
 ·rfl
 ·rfl
theorem Hv (t : Tm) (h : t.size ≤ 200) : t.varsOf.length ≤ 1000 := by
 have h1 := CL t.knots []
 rw [Tm.knots_length] at h1
 unfold Tm.varsOf
 simp only [List.length_nil] at h1
 omega
theorem IB (R : List Pr) : AT Tryz.prog 35 [Cx R] (Ab (BH R)) := by
 have hm : BH R = if 40 < R.length then 3 else C8 Cz R := rfl
 refine Ga.ac fun C hC => ?_
 unfold Dl
 by_cases h40 : (40 : Int) < R.length
 ·repeat' with_reducible first | refine W ?_ | refine Z0 ?_ | ((first | refine Wo fun K hK => ?_ | refine Wp ?_ | refine Wq ?_ | refine Wr ?_); (try simp only [go_sem, fN, seval, eT, iR, h40, dT, dF, nL]); (repeat refine Ai ?_); (try (refine hK _ ?_; clear hK K)); try refine iC ?_)
  simp only [go_sem, fN, seval, AQ, AS.result, AD, AE, AL]
  rw [hm, if_pos (by omega)]
 rw [if_neg (by omega)] at hm
 repeat' with_reducible first | refine W ?_ | refine Z0 ?_ | ((first | refine Wo fun K hK => ?_ | refine Wp ?_ | refine Wq ?_ | refine Wr ?_); (try simp only [go_sem, fN, seval, eT, iR, h40, dT, dF, nL]); (repeat refine Ai ?_); (try (refine hK _ ?_; clear hK K)); try refine iC ?_)
 refine IWP.loopD [4, 6] (fun m s => ∃ k, k ≤ R.length ∧ m = R.length - k ∧ C8 Cz (R.take k) = 0 ∧ s.env 10 = Cx R ∧ s.env 11 = Ab R.length ∧ s.env 12 = Ab k ∧ s.S 4 = none ∧ s.S 6 = none) R.length ⟨0, Nat.zero_le _, rfl, rfl, rfl, rfl, rfl, rfl, rfl⟩ ?_
 rintro m ⟨env, S⟩ ⟨k, hk, rfl, h0, e10, e11, e12, s4, s6⟩
 simp only at e10 e11 e12 s4 s6
 by_cases hlt : (k : Int) < R.length
 ·obtain ⟨r, hr⟩ := Ac (show k < R.length by omega)
  obtain ⟨g1, g2⟩ := Ln hr h0
  have re : Cz r = if Bq r.1 r.2 = 0 then (if Aw r.1.name = true then 2 else if FI r = true then 15 else 0) else Bq r.1 r.2 := rfl
  by_cases hz : Bq r.1 r.2 = 0
  case neg =>
   repeat' (first | (with_reducible first | refine W ?_ | refine Z0 ?_ | ((first | refine Wo fun K hK => ?_ | refine Wp ?_ | refine Wq ?_ | refine Wr ?_); (try simp only [go_sem, fN, seval, eT, iR, e10, e11, e12, s4, s6, hlt, hr, Db, hz, dT, dF, nL]); (repeat refine Ai ?_); (try (refine hK _ ?_; clear hK K)); try refine iC ?_)) | refine Cg _ (Mb r.1 r.2) ?_)
   simp only [go_sem, fN, seval, AQ, AS.result, AD, AE, AL]
   rw [if_neg hz] at re
   rw [hm, g2 (by rw [re]; exact hz), re]
  case pos =>
  rw [if_pos hz] at re
  by_cases hv : Aw r.1.name = true
  ·repeat' (first | (with_reducible first | refine W ?_ | refine Z0 ?_ | ((first | refine Wo fun K hK => ?_ | refine Wp ?_ | refine Wq ?_ | refine Wr ?_); (try simp only [go_sem, fN, seval, eT, iR, e10, e11, e12, s4, s6, hlt, hr, Db, hz, hv, dT, dF, nL]); (repeat refine Ai ?_); (try (refine hK _ ?_; clear hK K)); try refine iC ?_)) | refine Cg _ (Mb r.1 r.2) ?_ | refine Cg _ (DC r.1.name) ?_)
   simp only [go_sem, fN, seval, AQ, AS.result, AD, AE, AL]
   rw [if_pos hv] at re
   rw [hm, g2 (by rw [re]; decide), re]
  rw [if_neg hv] at re
  have m12 : r.1.may = 0 ∧ r.2.may = 0 := by
   unfold Bq at hz
   by_cases h4 : r.1.may = 0
   ·rw [if_pos h4] at hz; exact ⟨h4, hz⟩
   ·rw [if_neg h4] at hz; exact absurd hz h4
  have z1 := (Tm.may_chk m12.1).2
  have z2 := (Tm.may_chk m12.2).2
  have l2 := Hv r.2 z2
  repeat' (first | (with_reducible first | refine W ?_ | refine Z0 ?_ | ((first | refine Wo fun K hK => ?_ | refine Wp ?_ | refine Wq ?_ | refine Wr ?_); (try simp only [go_sem, fN, seval, eT, iR, e10, e11, e12, s4, s6, hlt, hr, Db, hz, hv, dT, dF, nL]); (repeat refine Ai ?_); (try (refine hK _ ?_; clear hK K)); try refine iC ?_)) | refine Cg _ (Mb r.1 r.2) ?_ | refine Cg _ (DC r.1.name) ?_ | refine Cg _ (PB r.1 (by omega)) ?_ | refine Cg _ (PB r.2 (by omega)) ?_)
  refine ⟨_, _, Hd r.1.varsOf r.2.varsOf (by omega) (up1 6) (A9 6) _ (by rw [BW]; simp [AF]; rfl), ?_⟩
  have ho : FI r = r.2.varsOf.any fun v => !B5 v r.1.varsOf := rfl
  rw [← ho]
  by_cases hop : FI r = true
  ·repeat' with_reducible first | refine W ?_ | refine Z0 ?_ | ((first | refine Wo fun K hK => ?_ | refine Wp ?_ | refine Wq ?_ | refine Wr ?_); (try simp only [go_sem, fN, seval, eT, iR, hop, dT, dF, nL]); (repeat refine Ai ?_); (try (refine hK _ ?_; clear hK K)); try refine iC ?_)
   simp only [go_sem, fN, seval, AQ, AS.result, AD, AE, AL]
   rw [if_pos hop] at re
   rw [hm, g2 (by rw [re]; decide), re]
  ·rw [if_neg hop] at re
   simp only [Bool.not_eq_true] at hop
   repeat' with_reducible first | refine W ?_ | refine Z0 ?_ | ((first | refine Wo fun K hK => ?_ | refine Wp ?_ | refine Wq ?_ | refine Wr ?_); (try simp only [go_sem, fN, seval, eT, iR, hop, e10, e11, e12, dT, dF, nL]); (repeat refine Ai ?_); (try (refine hK _ ?_; clear hK K)); try refine iC ?_)
   refine AI ⟨R.length - (k + 1), by omega, k + 1, by omega, rfl, g1 re, ?_⟩
   simp only [go_sem, fN, seval, AS.drop, Aa, AC.clears, AC.clear, AC.highs, AC.high, Bool.not_false, Bool.true_and, Bool.and_self, AV.purge, AV.purges, AC.purge, AJ.purge, List.contains_cons, List.contains_nil, Nat.reduceBEq, Bool.or_self, Bool.or_false, Bool.false_or, Bool.or_true, eT, iR, e10, e11, e12, s4, s6]
   congr 3
 ·repeat' with_reducible first | refine W ?_ | refine Z0 ?_ | ((first | refine Wo fun K hK => ?_ | refine Wp ?_ | refine Wq ?_ | refine Wr ?_); (try simp only [go_sem, fN, seval, eT, iR, e10, e11, e12, hlt, dT, dF, nL]); (repeat refine Ai ?_); (try (refine hK _ ?_; clear hK K)); try refine iC ?_)
  simp only [go_sem, fN, seval, AQ, AS.result, AD, AE, AL]
  rw [List.take_of_length_le (by omega)] at h0
  rw [hm, h0]
theorem KB (R : List Pr) (t : Tm) : AT Tryz.prog 27 [Cx R, aTm t] (Ab (GD R t)) := by
 have hm : GD R t = if BH R = 0 then t.may else BH R := rfl
 refine HZ.ac fun C hC => ?_
 unfold EE
 by_cases h : BH R = 0
 ·rw [if_pos h] at hm
  repeat' (first | (with_reducible first | refine W ?_ | refine Z0 ?_ | ((first | refine Wo fun K hK => ?_ | refine Wp ?_ | refine Wq ?_ | refine Wr ?_); (try simp only [go_sem, fN, seval, eT, iR, h, dT, dF, nL]); (repeat refine Ai ?_); (try (refine hK _ ?_; clear hK K)); try refine iC ?_)) | refine Cg _ (IB R) ?_ | refine Cg _ (GJ t) ?_)
  simp only [go_sem, fN, seval, AQ, AS.result, AD, AE, AL]
  rw [hm]
 ·rw [if_neg h] at hm
  repeat' (first | (with_reducible first | refine W ?_ | refine Z0 ?_ | ((first | refine Wo fun K hK => ?_ | refine Wp ?_ | refine Wq ?_ | refine Wr ?_); (try simp only [go_sem, fN, seval, eT, iR, h, dT, dF, nL]); (repeat refine Ai ?_); (try (refine hK _ ?_; clear hK K)); try refine iC ?_)) | refine Cg _ (IB R) ?_ | refine Cg _ (GJ t) ?_)
  simp only [go_sem, fN, seval, AQ, AS.result, AD, AE, AL]
  rw [hm]
theorem Cn (R : List Pr) : AT Tryz.prog 7 [Cx R] (Ab (BH R)) := by
 have hm : BH R = if 40 < R.length then 3 else C8 Cz R := rfl
 refine JH.ac fun C hC => ?_
 unfold E7
 by_cases h40 : (40 : Int) < R.length
 ·repeat' with_reducible first | refine W ?_ | refine Z0 ?_ | ((first | refine Wo fun K hK => ?_ | refine Wp ?_ | refine Wq ?_ | refine Wr ?_); (try simp only [go_sem, fN, seval, eT, iR, h40, dT, dF, nL]); (repeat refine Ai ?_); (try (refine hK _ ?_; clear hK K)); try refine iC ?_)
  simp only [go_sem, fN, seval, AQ, AS.result, AD, AE, AL]
  rw [hm, if_pos (by omega)]
 rw [if_neg (by omega)] at hm
 repeat' with_reducible first | refine W ?_ | refine Z0 ?_ | ((first | refine Wo fun K hK => ?_ | refine Wp ?_ | refine Wq ?_ | refine Wr ?_); (try simp only [go_sem, fN, seval, eT, iR, h40, dT, dF, nL]); (repeat refine Ai ?_); (try (refine hK _ ?_; clear hK K)); try refine iC ?_)
 refine IWP.loop (fun m s => ∃ k, k ≤ R.length ∧ m = R.length - k ∧ C8 Cz (R.take k) = 0 ∧ s.env 0 = Cx R ∧ s.env 3 = Ab k) R.length ⟨0, Nat.zero_le _, rfl, rfl, rfl, rfl⟩ ?_
 rintro m ⟨env, S⟩ ⟨k, hk, rfl, h0, e0, e3⟩
 simp only at e0 e3
 by_cases hlt : (k : Int) < R.length
 ·obtain ⟨r, hr⟩ := Ac (show k < R.length by omega)
  obtain ⟨g1, g2⟩ := Ln hr h0
  have re : Cz r = if Bq r.1 r.2 = 0 then (if Aw r.1.name = true then 2 else if FI r = true then 15 else 0) else Bq r.1 r.2 := rfl
  by_cases hz : Bq r.1 r.2 = 0
  case neg =>
   repeat' (first | (with_reducible first | refine W ?_ | refine Z0 ?_ | ((first | refine Wo fun K hK => ?_ | refine Wp ?_ | refine Wq ?_ | refine Wr ?_); (try simp only [go_sem, fN, seval, eT, iR, e0, e3, hlt, hr, Db, hz, dT, dF, nL]); (repeat refine Ai ?_); (try (refine hK _ ?_; clear hK K)); try refine iC ?_)) | refine Cg _ (In r.1 r.2) ?_)
   simp only [go_sem, fN, seval, AQ, AS.result, AD, AE, AL]
   rw [if_neg hz] at re
   rw [hm, g2 (by rw [re]; exact hz), re]
  case pos =>
  rw [if_pos hz] at re
  by_cases hv : Aw r.1.name = true
  ·repeat' (first | (with_reducible first | refine W ?_ | refine Z0 ?_ | ((first | refine Wo fun K hK => ?_ | refine Wp ?_ | refine Wq ?_ | refine Wr ?_); (try simp only [go_sem, fN, seval, eT, iR, e0, e3, hlt, hr, Db, hz, hv, dT, dF, nL]); (repeat refine Ai ?_); (try (refine hK _ ?_; clear hK K)); try refine iC ?_)) | refine Cg _ (In r.1 r.2) ?_ | refine Cg _ (GC r.1.name) ?_)
   simp only [go_sem, fN, seval, AQ, AS.result, AD, AE, AL]
   rw [if_pos hv] at re
   rw [hm, g2 (by rw [re]; decide), re]
  rw [if_neg hv] at re
  have m12 : r.1.may = 0 ∧ r.2.may = 0 := by
   unfold Bq at hz
   by_cases h4 : r.1.may = 0
   ·rw [if_pos h4] at hz; exact ⟨h4, hz⟩
   ·rw [if_neg h4] at hz; exact absurd hz h4
  have z1 := (Tm.may_chk m12.1).2
  have z2 := (Tm.may_chk m12.2).2
  have l2 := Hv r.2 z2
  repeat' (first | (with_reducible first | refine W ?_ | refine Z0 ?_ | ((first | refine Wo fun K hK => ?_ | refine Wp ?_ | refine Wq ?_ | refine Wr ?_); (try simp only [go_sem, fN, seval, eT, iR, e0, e3, hlt, hr, Db, hz, hv, dT, dF, nL]); (repeat refine Ai ?_); (try (refine hK _ ?_; clear hK K)); try refine iC ?_)) | refine Cg _ (In r.1 r.2) ?_ | refine Cg _ (GC r.1.name) ?_ | refine Cg _ (ME r.1 (by omega)) ?_ | refine Cg _ (ME r.2 (by omega)) ?_)
  have ho : FI r = r.2.varsOf.any fun v => !B5 v r.1.varsOf := rfl
  refine IWP.loop (fun m s => ∃ i, i ≤ r.2.varsOf.length ∧ m = r.2.varsOf.length - i ∧ (r.2.varsOf.take i).any (fun v => !B5 v r.1.varsOf) = false ∧ s.env 0 = Cx R ∧ s.env 3 = Ab k ∧ s.env 5 = Bm r.1.varsOf ∧ s.env 6 = Bm r.2.varsOf ∧ s.env 7 = Ab i) r.2.varsOf.length ⟨0, Nat.zero_le _, rfl, rfl, ?_⟩ ?_
  ·simp only [go_sem, fN, seval, eT, iR, e0, e3]
  rintro m ⟨env, S⟩ ⟨i, hi, rfl, hany, e0, e3, e5, e6, e7⟩
  simp only at e0 e3 e5 e6 e7
  by_cases hli : (i : Int) < r.2.varsOf.length
  ·obtain ⟨v, hvi⟩ := Ac (show i < r.2.varsOf.length by omega)
   by_cases hin : B5 v r.1.varsOf = true
   ·repeat' (first | (with_reducible first | refine W ?_ | refine Z0 ?_ | ((first | refine Wo fun K hK => ?_ | refine Wp ?_ | refine Wq ?_ | refine Wr ?_); (try simp only [go_sem, fN, seval, eT, iR, e0, e3, e5, e6, e7, hli, hvi, hin, dT, dF, nL]); (repeat refine Ai ?_); (try (refine hK _ ?_; clear hK K)); try refine iC ?_)) | refine Cg _ (Rc v r.1.varsOf) ?_)
    refine AI ⟨r.2.varsOf.length - (i + 1), by omega, i + 1, by omega, rfl, ?_, ?_⟩
    ·rw [KL hvi hany, hin]
     rfl
    ·simp only [go_sem, fN, seval, eT, iR, e0, e3, e5, e6, e7]
     congr 3
   ·have hop : FI r = true := by
     rw [ho, List.any_eq_true]
     exact ⟨v, AO hvi, by simpa using hin⟩
    repeat' (first | (with_reducible first | refine W ?_ | refine Z0 ?_ | ((first | refine Wo fun K hK => ?_ | refine Wp ?_ | refine Wq ?_ | refine Wr ?_); (try simp only [go_sem, fN, seval, eT, iR, e0, e3, e5, e6, e7, hli, hvi, hin, dT, dF, nL]); (repeat refine Ai ?_); (try (refine hK _ ?_; clear hK K)); try refine iC ?_)) | refine Cg _ (Rc v r.1.varsOf) ?_)
    simp only [go_sem, fN, seval, AQ, AS.result, AD, AE, AL]
    rw [if_pos hop] at re
    rw [hm, g2 (by rw [re]; decide), re]
  ·rw [List.take_of_length_le (by omega), ← ho] at hany
   rw [if_neg (by rw [hany]; decide)] at re
   repeat' with_reducible first | refine W ?_ | refine Z0 ?_ | ((first | refine Wo fun K hK => ?_ | refine Wp ?_ | refine Wq ?_ | refine Wr ?_); (try simp only [go_sem, fN, seval, eT, iR, e0, e3, e5, e6, e7, hli, dT, dF, nL]); (repeat refine Ai ?_); (try (refine hK _ ?_; clear hK K)); try refine iC ?_)
   refine AI ⟨R.length - (k + 1), by omega, k + 1, by omega, rfl, g1 re, ?_⟩
   simp only [go_sem, fN, seval, eT, iR, e0, e3]
   congr 3
 ·repeat' with_reducible first | refine W ?_ | refine Z0 ?_ | ((first | refine Wo fun K hK => ?_ | refine Wp ?_ | refine Wq ?_ | refine Wr ?_); (try simp only [go_sem, fN, seval, eT, iR, e0, e3, hlt, dT, dF, nL]); (repeat refine Ai ?_); (try (refine hK _ ?_; clear hK K)); try refine iC ?_)
  simp only [go_sem, fN, seval, AQ, AS.result, AD, AE, AL]
  rw [List.take_of_length_le (by omega)] at h0
  rw [hm, h0]

set_option maxRecDepth 100000
def Ar : IR :=
 (.seq (.ops [.i 2 (.mov (.c (.one (.full []))))]) (.seq (.seq (.ops [.m 3 0, .i 4 (.eqN false (.t 3))]) (.cond (.t 4) (.seq (.ops [.i 2 (.mov (.c (.one (.full []))))]) .ret) .skip)) (.seq (.ops [.i 5 (.buildSlice false 25 2 []), .m 6 0, .i 7 (.append true 25 2 40 (.t 5) (.t 6)), .m 2 7]) .ret)))
theorem BK : OkF Tryz.prog 98 8 [7] Ar [.t 2] := .of Tryz.func98 rfl rfl (by kernel_rfl) rfl

def E5 : IR :=
 (.seq (.ops [.i 3 (.box 25 (.t 0)), .i 4 (.box 25 (.t 1)), .i 6 (.mov (.c (.one (.st (.bool false)))))]) (.seq (.seq (.ops [.f 10 0 3, .l 11 10, .i 12 (.call 62 [.t 11])]) (.cond (.t 12) (.seq (.seq (.ops [.m 14 2, .f 15 0 3, .l 16 15, .i 17 (.lookup none true (.agg [.st (.str (ByteArray.mk (#[]))), .full []]) (.t 14) (.t 16)), .m 13 17, .i 18 (.extract 0 (.t 13)), .i 19 (.extract 1 (.t 13)), .i 7 (.alloc 25 [.st (.str (ByteArray.mk (#[]))), .full []]), .s 2 7 18, .m 8 19]) (.seq (.ops [.m 20 8]) (.cond (.t 20) (.seq (.ops [.L 21 2 7, .L 22 2 4, .i 23 (.call 99 [.t 21, .t 22]), .m 6 23]) .ret) .skip))) (.seq (.ops [.m 24 2, .f 25 0 3, .l 26 25, .L 27 2 4, .mk none none (.mapSet none (.t 24) (.t 26) (.t 27)) .no]) (.seq (.ops [.i 6 (.mov (.c (.one (.st (.bool true)))))]) .ret))) .skip)) (.seq (.seq (.ops [.f 28 0 3, .l 29 28, .f 30 0 4, .l 31 30, .i 32 (.bin .neq (.t 29) (.t 31)), .m 33 32, .mk (some 34) (some (33, false)) (.fieldAddr 1 (.t 3)) .no, .mk (some 35) (some (33, false)) (.load false 1 (.t 34)) .no, .mk (some 36) (some (33, false)) (.len false (.t 35)) .no, .mk (some 37) (some (33, false)) (.fieldAddr 1 (.t 4)) .no, .mk (some 38) (some (33, false)) (.load false 1 (.t 37)) .no, .mk (some 39) (some (33, false)) (.len false (.t 38)) .no, .mk (some 40) (some (33, false)) (.bin .neq (.t 36) (.t 39)) .no, .i 41 (.pick (.t 33) (.c (.one (.st (.bool true)))) (.t 40))]) (.cond (.t 41) (.seq (.ops [.i 6 (.mov (.c (.one (.st (.bool false)))))]) .ret) .skip)) (.seq (.seq (.ops [.f 42 1 3, .l 43 42, .i 44 (.len false (.t 43)), .i 45 (.mov (.n 0))]) (.block 0 (.loop (.seq (.ops [.i 46 (.bin .lss (.t 45) (.t 44))]) (.seq (.cond (.t 46) .skip (.exit 0)) (.seq (.block 1 (.seq (.ops [.m 47 45, .m 9 47]) (.seq (.ops [.f 48 1 3, .l 49 48, .m 50 9, .i 51 (.indexAddr 2 (.t 49) (.t 50)), .L 52 2 51, .f 53 1 4, .l 54 53, .m 55 9, .i 56 (.indexAddr 2 (.t 54) (.t 55)), .L 57 2 56, .m 58 2, .i 59 (.callS 107 [.t 52, .t 57, .t 58]), .i 60 (.un .not (.t 59))]) (.cond (.t 60) (.seq (.ops [.i 6 (.mov (.c (.one (.st (.bool false)))))]) .ret) .skip)))) (.ops [.i 61 (.bin .add (.t 45) (.n 1)), .m 45 61]))))))) (.seq (.ops [.i 6 (.mov (.c (.one (.st (.bool true)))))]) .ret)))))
theorem I1 : OkF Tryz.prog 107 62 [59] E5 [.t 6] := .of Tryz.func107 rfl rfl (by kernel_rfl) rfl
def FB : IR :=
 (.seq (.ops [.i 2 (.box 25 (.t 0)), .i 3 (.box 25 (.t 1)), .i 4 (.mov (.c (.one (.full [])))), .i 5 (.mov (.c (.one (.st (.bool false)))))]) (.seq (.ops [.i 10 (.makeMap none), .m 6 10]) (.seq (.seq (.ops [.L 11 2 2, .L 12 2 3, .m 13 6, .i 14 (.callS 107 [.t 11, .t 12, .t 13]), .i 15 (.un .not (.t 14))]) (.cond (.t 15) (.seq (.ops [.i 4 (.mov (.c (.one (.full [])))), .i 5 (.mov (.c (.one (.st (.bool false)))))]) .ret) .skip)) (.seq (.ops [.i 7 (.mov (.c (.one (.full []))))]) (.seq (.seq (.ops [.m 16 6, .i 17 (.rangeM (.t 16))]) (.block 0 (.loop (.seq (.ops [.i 18 (.next (.t 17)), .i 19 (.extract 0 (.t 18))]) (.seq (.cond (.t 19) .skip (.exit 0)) (.block 1 (.seq (.ops [.i 20 (.entry (.t 17)), .i 21 (.extract 0 (.t 20)), .i 22 (.extract 1 (.t 20)), .i 9 (.alloc 25 [.st (.str (ByteArray.mk (#[]))), .full []]), .m 8 21, .s 2 9 22]) (.ops [.m 23 7, .m 24 8, .L 25 2 9, .i 26 (.call 55 [.t 25]), .i 27 (.build [.st (.str (ByteArray.mk (#[]))), .st (.str (ByteArray.mk (#[]))), .full []] [(0, 1, .t 24), (1, 2, .t 26)]), .i 28 (.buildSlice false 138 3 [.t 27]), .i 29 (.append true 138 3 56 (.t 23) (.t 28)), .m 7 29])))))))) (.seq (.ops [.m 30 7, .i 31 (.callS 108 [.t 30]), .m 4 31, .i 5 (.mov (.c (.one (.st (.bool true)))))]) .ret))))))
theorem JJ : OkF Tryz.prog 80 32 [14, 29, 31] FB [.t 4, .t 5] := .of Tryz.func80 rfl rfl (by kernel_rfl) rfl
def D9 : IR :=
 (.seq (.ops [.i 3 (.box 25 (.t 0)), .i 4 (.box 25 (.t 1)), .i 6 (.mov (.c (.one (.full [])))), .i 7 (.mov (.c (.one (.st (.bool false)))))]) (.seq (.seq (.ops [.f 13 0 3, .l 14 13, .i 15 (.call 19 [.t 14])]) (.cond (.t 15) (.seq (.ops [.m 17 2, .f 18 0 3, .l 19 18, .i 20 (.call 117 [.t 17, .t 19]), .m 16 20, .i 21 (.extract 0 (.t 16)), .i 22 (.extract 1 (.t 16)), .i 8 (.alloc 25 [.st (.str (ByteArray.mk (#[]))), .full []]), .s 2 8 21, .m 9 22]) (.seq (.seq (.ops [.m 23 9]) (.cond (.t 23) (.seq (.ops [.m 24 2, .L 25 2 8, .L 26 2 4, .i 27 (.call 36 [.t 25, .t 26]), .m 6 24, .m 7 27]) .ret) .skip)) (.seq (.ops [.m 28 2, .f 29 0 3, .l 30 29, .L 31 2 4, .i 32 (.build [.st (.str (ByteArray.mk (#[]))), .st (.str (ByteArray.mk (#[]))), .full []] [(0, 1, .t 30), (1, 2, .t 31)]), .i 33 (.buildSlice false 138 3 [.t 32]), .i 34 (.append false 138 3 56 (.t 28) (.t 33)), .m 6 34, .i 7 (.mov (.c (.one (.st (.bool true)))))]) .ret))) .skip)) (.seq (.seq (.ops [.f 35 0 3, .l 36 35, .f 37 0 4, .l 38 37, .i 39 (.bin .neq (.t 36) (.t 38)), .m 40 39, .mk (some 41) (some (40, false)) (.fieldAddr 1 (.t 3)) .no, .mk (some 42) (some (40, false)) (.load false 1 (.t 41)) .no, .mk (some 43) (some (40, false)) (.len false (.t 42)) .no, .mk (some 44) (some (40, false)) (.fieldAddr 1 (.t 4)) .no, .mk (some 45) (some (40, false)) (.load false 1 (.t 44)) .no, .mk (some 46) (some (40, false)) (.len false (.t 45)) .no, .mk (some 47) (some (40, false)) (.bin .neq (.t 43) (.t 46)) .no, .i 48 (.pick (.t 40) (.c (.one (.st (.bool true)))) (.t 47))]) (.cond (.t 48) (.seq (.ops [.i 6 (.mov (.c (.one (.full [])))), .i 7 (.mov (.c (.one (.st (.bool false)))))]) .ret) .skip)) (.seq (.seq (.ops [.i 10 (.mov (.n 0))]) (.block 0 (.loop (.seq (.seq (.ops [.m 49 10, .f 50 1 3, .l 51 50, .i 52 (.len false (.t 51)), .i 53 (.bin .lss (.t 49) (.t 52))]) (.cond (.t 53) .skip (.exit 0))) (.seq (.block 1 (.seq (.ops [.f 57 1 3, .l 58 57, .m 59 10, .i 60 (.indexAddr 2 (.t 58) (.t 59)), .L 61 2 60, .f 62 1 4, .l 63 62, .m 64 10, .i 65 (.indexAddr 2 (.t 63) (.t 64)), .L 66 2 65, .m 67 2, .i 68 (.callS 100 [.t 61, .t 66, .t 67]), .m 56 68, .i 69 (.extract 0 (.t 56)), .i 70 (.extract 1 (.t 56)), .m 11 69, .m 12 70]) (.seq (.seq (.ops [.m 71 12, .i 72 (.un .not (.t 71))]) (.cond (.t 72) (.seq (.ops [.i 6 (.mov (.c (.one (.full [])))), .i 7 (.mov (.c (.one (.st (.bool false)))))]) .ret) .skip)) (.ops [.m 73 11, .m 2 73])))) (.ops [.m 54 10, .i 55 (.bin .add (.t 54) (.n 1)), .m 10 55])))))) (.seq (.ops [.m 74 2, .m 6 74, .i 7 (.mov (.c (.one (.st (.bool true)))))]) .ret)))))
theorem Fi : OkF Tryz.prog 100 75 [68] D9 [.t 6, .t 7] := .of Tryz.func100 rfl rfl (by kernel_rfl) rfl
def Fl : IR :=
 (.seq (.ops [.i 2 (.box 25 (.t 0)), .i 3 (.box 25 (.t 1)), .i 4 (.mov (.c (.one (.full [])))), .i 5 (.mov (.c (.one (.st (.bool false)))))]) (.seq (.ops [.L 9 2 2, .L 10 2 3, .i 11 (.callS 100 [.t 9, .t 10, .c (.one (.full []))]), .m 8 11, .i 12 (.extract 0 (.t 8)), .i 13 (.extract 1 (.t 8)), .m 6 12, .m 7 13]) (.seq (.seq (.ops [.m 14 7, .i 15 (.un .not (.t 14))]) (.cond (.t 15) (.seq (.ops [.i 4 (.mov (.c (.one (.full [])))), .i 5 (.mov (.c (.one (.st (.bool false)))))]) .ret) .skip)) (.seq (.ops [.m 16 6, .i 17 (.call 101 [.t 16]), .m 4 17, .i 5 (.mov (.c (.one (.st (.bool true)))))]) .ret))))
theorem Kx : OkF Tryz.prog 72 18 [11] Fl [.t 4, .t 5] := .of Tryz.func72 rfl rfl (by kernel_rfl) rfl

def met {α : Type} (l : List α) (seen : List Nat) : List α := seen.filterMap fun j => l[j]?
theorem Lh {α : Type} {l : List α} {seen : List Nat} {j : Nat} {b : α} (h : l[j]? = some b) : met l (seen ++ [j]) = met l seen ++ [b] := by
 unfold met
 rw [List.filterMap_append, List.filterMap_cons_some h]
 rfl
theorem KY {α : Type} {l : List α} : ∀ {seen : List Nat}, (∀ j ∈ seen, j < l.length) → (met l seen).length = seen.length
 | [], _ => rfl
 | j :: seen, h => by
  have hj := h j (by simp)
  unfold met
  rw [List.filterMap_cons_some (List.getElem?_eq_getElem hj), List.length_cons, List.length_cons]
  exact congrArg (· + 1) (KY fun i hi => h i (by simp [hi]))
theorem Fx {n : Nat} {seen : List Nat} (hn : seen.Nodup) (h : ∀ j ∈ seen, j < n) : seen.length ≤ n := by
 have h1 : seen.Perm ((List.range n).filter fun j => decide (j ∈ seen)) := (List.perm_ext_iff_of_nodup hn (List.nodup_range.filter _)).2 fun j => by
  rw [List.mem_filter, List.mem_range, decide_eq_true_eq]
  exact ⟨fun hj => ⟨h j hj, hj⟩, fun hj => hj.2⟩
 rw [h1.length_eq]
 exact Nat.le_trans (List.length_filter_le _ _) (Nat.le_of_eq List.length_range)
theorem MX {α : Type} {l : List α} {seen : List Nat} (hn : seen.Nodup) (h : ∀ j ∈ seen, j < l.length) (hall : ∀ j, j < l.length → j ∈ seen) : (met l seen).Perm l := by
 have hp : seen.Perm (List.range l.length) := (List.perm_ext_iff_of_nodup hn List.nodup_range).2 fun j => ⟨fun hj => List.mem_range.2 (h j hj), fun hj => hall j (List.mem_range.1 hj)⟩
 have := hp.filterMap fun j => l[j]?
 rw [Ct] at this
 exact this

open Go.Proofs Go.Shelf
def Tryz.sortBd_ren : Go.Shelf.Ren := ⟨fun | 6 => 120 | 15 => 57 | 14 => 125 | 28 => 91 | 29 => 92 | 20 => 128 | 21 => 129 | 22 => 130 | 23 => 131 | 24 => 132 | 25 => 133 | 26 => 134 | 27 => 135 | 46 => 136 | 47 => 111 | 48 => 112 | 49 => 137 | 50 => 138 | 57 => 139 | n => n, fun | 22 => 102 | 24 => 138 | 25 => 155 | 3 => 3 | 39 => 90 | 0 => 0 | 53 => 124 | 55 => 126 | 4 => 4 | 46 => 116 | 45 => 115 | 50 => 121 | 5 => 5 | 9 => 9 | 66 => 143 | 70 => 147 | 76 => 156 | 77 => 157 | n => n, fun | n => n⟩
theorem Tryz.sortBd : Go.Proofs.SlLaysF0.n6 Tryz.prog Tryz.sortBd_ren := {
 mixed := by kernel_rfl
 f6 := ⟨Tryz.f120.name, by decide, Tryz.func120.trans (congrArg some (by kernel_rfl))⟩
 f14 := ⟨Tryz.f125.name, by decide, Tryz.func125.trans (congrArg some (by kernel_rfl))⟩
 f15 := Tryz.func57.trans (congrArg some (by kernel_rfl))
 f20 := ⟨Tryz.f128.name, by decide, Tryz.func128.trans (congrArg some (by kernel_rfl))⟩
 f21 := ⟨Tryz.f129.name, by decide, Tryz.func129.trans (congrArg some (by kernel_rfl))⟩
 f22 := ⟨Tryz.f130.name, by decide, Tryz.func130.trans (congrArg some (by kernel_rfl))⟩
 f23 := ⟨Tryz.f131.name, by decide, Tryz.func131.trans (congrArg some (by kernel_rfl))⟩
 f24 := ⟨Tryz.f132.name, by decide, Tryz.func132.trans (congrArg some (by kernel_rfl))⟩
 f25 := ⟨Tryz.f133.name, by decide, Tryz.func133.trans (congrArg some (by kernel_rfl))⟩
 f26 := ⟨Tryz.f134.name, by decide, Tryz.func134.trans (congrArg some (by kernel_rfl))⟩
 f27 := ⟨Tryz.f135.name, by decide, Tryz.func135.trans (congrArg some (by kernel_rfl))⟩
 f28 := Tryz.func91.trans (congrArg some (by kernel_rfl))
 f29 := Tryz.func92.trans (congrArg some (by kernel_rfl))
 f46 := ⟨Tryz.f136.name, by decide, Tryz.func136.trans (congrArg some (by kernel_rfl))⟩
 f47 := Tryz.func111.trans (congrArg some (by kernel_rfl))
 f48 := Tryz.func112.trans (congrArg some (by kernel_rfl))
 f49 := ⟨Tryz.f137.name, by decide, Tryz.func137.trans (congrArg some (by kernel_rfl))⟩
 f50 := ⟨Tryz.f138.name, by decide, Tryz.func138.trans (congrArg some (by kernel_rfl))⟩
 f57 := ⟨Tryz.f139.name, by decide, Tryz.func139.trans (congrArg some (by kernel_rfl))⟩
 t0 := Tryz.underlying0
 a0 := Tryz.isAgg0
 z0 := Tryz.sizeOf0
 v0 := Tryz.zeroValue0
 t3 := Tryz.underlying3
 a3 := Tryz.isAgg3
 z3 := Tryz.sizeOf3
 v3 := Tryz.zeroValue3
 t4 := Tryz.underlying4
 a4 := Tryz.isAgg4
 z4 := Tryz.sizeOf4
 v4 := Tryz.zeroValue4
 t5 := Tryz.underlying5
 a5 := Tryz.isAgg5
 z5 := Tryz.sizeOf5
 v5 := Tryz.zeroValue5
 t9 := Tryz.underlying9
 a9 := Tryz.isAgg9
 z9 := Tryz.sizeOf9
 v9 := Tryz.zeroValue9
 t22 := Tryz.underlying102
 a22 := Tryz.isAgg102
 z22 := Tryz.sizeOf102
 v22 := Tryz.zeroValue102
 t25 := Tryz.underlying155
 a25 := Tryz.isAgg155
 z25 := Tryz.sizeOf155
 v25 := Tryz.zeroValue155
 t39 := Tryz.underlying90
 a39 := Tryz.isAgg90
 z39 := Tryz.sizeOf90
 v39 := Tryz.zeroValue90
 t45 := Tryz.underlying115
 a45 := Tryz.isAgg115
 z45 := Tryz.sizeOf115
 v45 := Tryz.zeroValue115
 t46 := Tryz.underlying116
 a46 := Tryz.isAgg116
 z46 := Tryz.sizeOf116
 v46 := Tryz.zeroValue116
 t50 := Tryz.underlying121
 a50 := Tryz.isAgg121
 z50 := Tryz.sizeOf121
 v50 := Tryz.zeroValue121
 t53 := Tryz.underlying124
 a53 := Tryz.isAgg124
 z53 := Tryz.sizeOf124
 v53 := Tryz.zeroValue124
 t55 := Tryz.underlying126
 a55 := Tryz.isAgg126
 z55 := Tryz.sizeOf126
 v55 := Tryz.zeroValue126
 t66 := Tryz.underlying143
 a66 := Tryz.isAgg143
 z66 := Tryz.sizeOf143
 v66 := Tryz.zeroValue143
 t70 := Tryz.underlying147
 a70 := Tryz.isAgg147
 z70 := Tryz.sizeOf147
 v70 := Tryz.zeroValue147
 t76 := Tryz.underlying156
 a76 := Tryz.isAgg156
 z76 := Tryz.sizeOf156
 v76 := Tryz.zeroValue156
 t77 := Tryz.underlying157
 a77 := Tryz.isAgg157
 z77 := Tryz.sizeOf157
 v77 := Tryz.zeroValue157 }

abbrev EH (l : List Bd) : AJ := .mrow 138 3 (l.map B2)

def ES : IR :=
 (.seq (.ops [.i 2 (.mov (.c (.one (.full []))))]) (.seq (.ops [.m 3 0, .i 4 (.callS 120 [.t 3, .c (.one (.fn 121 []))])]) (.seq (.ops [.m 5 0, .m 2 5]) .ret)))
theorem Ia : OkF Tryz.prog 108 6 [4] ES [.t 2] := .of Tryz.func108 rfl rfl (by kernel_rfl) rfl

open Go.Lib Go.Sort
theorem Q1 {P : Program} {w : World} (t : TypeId) (x y : ByteArray) : (binOp .gtr t (.string x) (.string y)).run P w = .ok (.bool (!(sLt x y || decide (x = y)))) w := by
 simp only [binOp, Op.stringOp, CC]
 rfl
attribute [go_sem] Q1
theorem RK (s : ByteArray) (W : World) : Calls Tryz.prog 115 #[.string s] W fun e w' => e = .returned (.bool false) ∧ w' = W := by
 go_enter Tryz.func115, Tryz.ntmps115
 go_wp2_with fail
 go_ret
 exact ⟨rfl, rfl⟩
theorem OS (a b : ByteArray) (W : World) : Calls Tryz.prog 122 #[.string a, .string b] W fun e w' => e = .returned (.int .i64 (EO a b)) ∧ w' = W := by
 have h1 := RK
 have hl : sLt a b = Op.bytesLess a.toList b.toList := rfl
 have hc : EO a b = if sLt a b = true then -1 else if a = b then 0 else 1 := rfl
 generalize EO a b = r at hc ⊢
 go_enter Tryz.func122, Tryz.ntmps122
 go_wp2_with (go_at_call 115; refine (h1 _ _).mono ?_; rintro e w' ⟨rfl, rfl⟩)
 all_goals go_ret
 all_goals refine ⟨?_, rfl⟩
 all_goals simp_all
abbrev DY := ByteArray × ByteArray × Option Addr × Nat × Nat
def Br (x : DY) : List Value := [.string x.1, .string x.2.1, .slice x.2.2.1 x.2.2.2.1 x.2.2.2.2]
theorem Qu (x y : DY) (W : World) : Calls Tryz.prog 121 #[.agg (Br x).toArray, .agg (Br y).toArray] W fun e w' => e = .returned (.int .i64 (EO x.1 y.1)) ∧ ∃ q os', w' = grow (W.drewN q) os' := by
 have hcon := fun W' => OS x.1 y.1 W'
 generalize EO x.1 y.1 = r at hcon ⊢
 unfold Br
 go_enter Tryz.func121, Tryz.ntmps121
 go_wp2_with (go_at_call 122; refine (hcon _).mono ?_; rintro e w' ⟨rfl, rfl⟩)
 go_ret
 exact ⟨rfl, 0, _, by rw [alloc_eq_grow, alloc_eq_grow, grow_grow]; rfl⟩
theorem OU : SWO (ltOf fun x y : DY => EO x.1 y.1) where
 irrefl x := by
  simp only [ltOf, decide_eq_false_iff_not]
  intro h
  have := B_.1 h
  rw [CH] at this
  cases this
 trans x y z h k := by
  simp only [ltOf, decide_eq_true_eq] at *
  exact B_.2 (B0 (B_.1 h) (B_.1 k))
 ntrans x y z h k := by
  simp only [ltOf, decide_eq_false_iff_not] at *
  intro e
  have e := B_.1 e
  have h : sLt x.1 y.1 = false := by
   cases hx : sLt x.1 y.1 with
   | false => rfl
   | true => exact absurd (B_.2 hx) h
  have k : sLt y.1 z.1 = false := by
   cases hx : sLt y.1 z.1 with
   | false => rfl
   | true => exact absurd (B_.2 hx) k
  rcases C6 y.1 z.1 with q | q | q
  ·rw [q] at k; cases k
  ·rw [q] at h; rw [e] at h; cases h
  ·have := B0 e q
   rw [this] at h
   cases h
def Px (σ : Sto) (x : DY) (b : Bd) : Prop := x.1 = b.1 ∧ AY (Ap σ) (Br x) (B2 b)
theorem ON {α β : Type} {R : α → β → Prop} {l1 l2 : List α} (hp : l1.Perm l2) : ∀ {m1 : List β}, AY R l1 m1 → ∃ m2, AY R l2 m2 ∧ m1.Perm m2 := by
 induction hp with
 | nil => intro m1 h; exact ⟨m1, h, List.Perm.refl _⟩
 | cons x _ ih =>
  intro m1 h
  cases h with
  | cons h1 h2 =>
   obtain ⟨m2, q1, q2⟩ := ih h2
   exact ⟨_ :: m2, .cons h1 q1, q2.cons _⟩
 | swap x y l =>
  intro m1 h
  cases h with
  | cons h1 h2 =>
   cases h2 with
   | cons h2 h3 => exact ⟨_, .cons h2 (.cons h1 h3), List.Perm.swap _ _ _⟩
 | trans _ _ ih1 ih2 =>
  intro m1 h
  obtain ⟨m2, q1, q2⟩ := ih1 h
  obtain ⟨m3, q3, q4⟩ := ih2 q1
  exact ⟨m3, q3, q2.trans q4⟩
theorem Qm {σ : Sto} {b : Bd} {v1 v2 v3 : Value} (h1 : Ap σ v1 (.str b.1)) (h2 : Ap σ v2 (.str b.2.name)) (h3 : Ap σ v3 (.list (b.2.args.map Ae))) : ∃ x : DY, [v1, v2, v3] = Br x ∧ Px σ x b := by
 have e1 := (CN (S := noS) (ι := noH) (.one (.st h1))).1
 have e2 := (CN (S := noS) (ι := noH) (.one (.st h2))).1
 obtain ⟨p, cap, e3, _⟩ := Bi h3
 subst e1 e2 e3
 exact ⟨(b.1, b.2.name, p, _, cap), rfl, rfl, .cons h1 (.cons h2 (.cons h3 .nil))⟩
theorem IF {σ : Sto} {vs : Array Value} : ∀ (l : List Bd) (base : Nat), (∀ k b, l[k]? = some b → ∀ j a, (B2 b)[j]? = some a → ∃ v, vs[base + k * 3 + j]? = some v ∧ Ap σ v a) →
  ∃ d : List DY, AY (Px σ) d l ∧ ∀ k x j v, d[k]? = some x → (Br x)[j]? = some v → vs[base + k * 3 + j]? = some v
 | [], base, _ => ⟨[], .nil, by simp⟩
 | b :: l, base, h => by
  obtain ⟨d, d1, d2⟩ := IF l (base + 3) (fun k c hc j a ha => by
   obtain ⟨v, v1, v2⟩ := h (k + 1) c (by simpa using hc) j a ha
   exact ⟨v, by rw [← v1]; congr 1; omega, v2⟩)
  obtain ⟨u1, p1, q1⟩ := h 0 b rfl 0 _ rfl
  obtain ⟨u2, p2, q2⟩ := h 0 b rfl 1 _ rfl
  obtain ⟨u3, p3, q3⟩ := h 0 b rfl 2 _ rfl
  obtain ⟨x, x1, x2⟩ := Qm q1 q2 q3
  refine ⟨x :: d, .cons x2 d1, fun k y j v hy hv => ?_⟩
  cases k with
  | zero =>
   simp only [List.getElem?_cons_zero, Option.some.injEq] at hy
   subst hy
   rw [← x1] at hv
   match j, hv with
   | 0, hv => cases hv; exact p1
   | 1, hv => cases hv; exact p2
   | 2, hv => cases hv; exact p3
   | j + 3, hv => simp at hv
  | succ k =>
   have := d2 k y j v (by simpa using hy) hv
   rw [← this]
   congr 1
   omega
theorem Gz (x : DY) : (Br x).length = 3 := rfl
theorem Lu {d : Array DY} {t : Nat} (h : t < d.size * 3) : ∃ x v, d[t / 3]? = some x ∧ (Br x)[t % 3]? = some v ∧ (flatK Br 3 d)[t]! = v := by
 have hk : t / 3 < d.size := by omega
 have hj : t % 3 < (Br d[t / 3]).length := by rw [Gz]; omega
 refine ⟨d[t / 3], (Br d[t / 3])[t % 3], Array.getElem?_eq_getElem hk, List.getElem?_eq_getElem hj, ?_⟩
 rw [get_flatK _ _ _ _ h, getElem!_pos d (t / 3) hk, getElem!_pos (Br d[t / 3]) (t % 3) hj]
theorem N6 (w : World) (g n : Nat) (d : Array DY) (os : Array Obj) (vs : Array Value) (e : TypeId) (hg : w.heap[g]? = some (.cells vs e (0, 0))) :
  (sortWorldK Br 3 w g 0 n d os).heap[g]? = some (.cells (putCells id 0 (flatK Br 3 d) vs) e (0, 0)) ∧ (∀ k, k < w.heap.size → k ≠ g → (sortWorldK Br 3 w g 0 n d os).heap[k]? = w.heap[k]?) ∧ w.heap.size ≤ (sortWorldK Br 3 w g 0 n d os).heap.size := by
 have hlt := (Array.getElem?_eq_some_iff.1 hg).1
 have hsz : (putRowK Br 3 (Sort.ahead w n) g 0 d).heap.size = w.heap.size := by simp [putRowK, putRow, mapBlock, Sort.ahead]
 refine ⟨?_, fun k hk hne => ?_, ?_⟩
 ·unfold sortWorldK
  rw [heap_grow_old _ _ (by rw [hsz]; exact hlt)]
  simp [putRowK, putRow, mapBlock, Sort.ahead, Array.getElem?_modify, hg, onCells]
 ·unfold sortWorldK
  rw [heap_grow_old _ _ (by rw [hsz]; exact hk)]
  simp [putRowK, putRow, mapBlock, Sort.ahead, Array.getElem?_modify, Ne.symm hne]
 ·unfold sortWorldK
  rw [Go.Sort.size_grow, hsz]
  omega
theorem Qb {d : Array DY} {vs : Array Value} (hs : d.size * 3 ≤ vs.size) {k : Nat} {x : DY} {j : Nat} {v : Value} (hx : d[k]? = some x) (hv : (Br x)[j]? = some v) : (putCells id 0 (flatK Br 3 d) vs)[k * 3 + j]? = some v := by
 have hk := (Array.getElem?_eq_some_iff.1 hx).1
 have hj : j < 3 := by have := (List.getElem?_eq_some_iff.1 hv).1; rw [Gz] at this; exact this
 have hlt : k * 3 + j < d.size * 3 := by omega
 obtain ⟨y, u, h1, h2, h3⟩ := Lu hlt
 have e1 : (k * 3 + j) / 3 = k := by omega
 have e2 : (k * 3 + j) % 3 = j := by omega
 rw [e1, hx] at h1
 cases h1
 rw [e2, hv] at h2
 cases h2
 unfold putCells
 rw [Array.getElem?_mapIdx, Array.getElem?_eq_getElem (by omega), Option.map_some, if_pos (by rw [size_flatK]; omega)]
 simp only [Nat.sub_zero, id, h3]
theorem Pc (d : Array DY) (vs : Array Value) : (putCells id 0 (flatK Br 3 d) vs).size = vs.size := by simp [putCells]
theorem Qp {S : AA} {r : Nat} {b : AJ} (h : S r = some b) : AF S r (some b) = S := by
 funext k
 unfold AF
 split
 ·rename_i e; rw [e, h]
 ·rfl
theorem Oh {d : Array DY} {vs : Array Value} {t : Nat} (h : d.size * 3 ≤ t) : (putCells id 0 (flatK Br 3 d) vs)[t]? = vs[t]? := by
 unfold putCells
 rw [Array.getElem?_mapIdx]
 cases hv : vs[t]? with
 | none => rfl
 | some v => rw [Option.map_some, if_neg (by rw [size_flatK]; omega)]
abbrev EG (l : List Bd) (ys : List (List SV)) : AJ := .mrow 138 3 (l.map B2 ++ ys)
theorem Od (l : List Bd) (ys : List (List SV)) (hys : ∀ y ∈ ys, y.length = 3) (hn : CI l) (hl : l.length ≤ 100000) (r : Nat) (hr : 1000 ≤ r) (S : AA) (sr : S r = some (EG l ys)) (hS : Aj S) (σ : Sto) (w : World) (ι : Aq) (hF : Fit σ w) (hO : DM σ S ι w) :
  Calls Tryz.prog 120 #[.slice (ι r).p l.length (ι r).cap, .func (.func 121) #[] #[]] w fun e w' => ∃ v σ' ι', e = .returned v ∧ Aj (AF S r (some (EG (BB l) ys))) ∧ Upd S ι (AF S r (some (EG (BB l) ys))) ι' ∧ DM σ' (AF S r (some (EG (BB l) ys))) ι' w' ∧ AN σ' (AF S r (some (EG (BB l) ys))) ι' v (.tup []) ∧ Fit σ' w' ∧ (∀ p x, σ p = some x → σ' p = some x) ∧
   (∀ p : Addr, p.block < w.heap.size → BZ S ι p.block → σ' p = σ p) ∧ (w'.os = w.os ∧ w'.tape = w.tape ∧ w'.output = w.output) ∧ w.heap.size ≤ w'.heap.size ∧
   (∀ g, g < w.heap.size → BZ S ι g → w'.heap[g]? = w.heap[g]?) ∧ (∀ id b g, AF S r (some (EG (BB l) ys)) id = some b → (ι' id).g = some g → w.heap.size ≤ g ∨ ¬ BZ S ι g) := by
 have hS' : Aj (AF S r (some (EG (BB l) ys))) := Ax hS hr rfl
 have hb : BN σ S ι w (ι r) (.mrow 138 3 (l.map B2 ++ ys)) := hO.1 r _ sr
 generalize hxs : l.map B2 ++ ys = xs at hb
 have hlen : xs.length = l.length + ys.length := by rw [← hxs, List.length_append, List.length_map]
 generalize hh : ι r = hd at hb
 cases hb with
 | mnil k1 k2 =>
  obtain ⟨hl0, hy0⟩ : l = [] ∧ ys = [] := by simpa using hxs
  subst hl0 hy0
  refine (AnyF.slices_SortFunc_none Tryz.sortBd hd.p hd.cap _ w).mono fun e w' ⟨he, hw⟩ => ?_
  subst hw
  have hid : AF S r (some (EG (BB []) [])) = S := Qp sr
  rw [hid]
  exact ⟨_, σ, ι, he, hS, Upd.refl _ _, hO, .tup (fun _ => undef) rfl (by simp) (by simp), hF, fun _ _ h => h, fun _ _ _ => rfl, ⟨rfl, rfl, rfl⟩, Nat.le_refl _, fun _ _ _ => rfl, fun id b g h1 h2 => .inr fun hno => hno id b h1 h2⟩
 | @mrow _ _ _ g cs k1 k2 k3 k4 k5 k6 k7 k8 k9 =>
  subst hxs
  obtain ⟨d, d1, d2⟩ := IF (σ := σ) (vs := cs) l 0 (fun k b hb j a ha => by
   obtain ⟨v, v1, v2⟩ := k8 k (B2 b) j a (by rw [List.getElem?_append_left (by rw [List.length_map]; exact Bo hb), List.getElem?_map, hb]; rfl) ha
   exact ⟨v, by rw [Nat.zero_add]; exact v1, v2⟩)
  have dlen : d.length = l.length := d1.len
  have hcap : l.length ≤ hd.cap := by omega
  have hfits : d.toArray.size * 3 ≤ cs.size := by
   rw [k6]
   simp only [List.size_toArray, dlen]
   exact Nat.mul_le_mul_right 3 hcap
  have hH : HoldsK Br 3 w g 0 d.toArray := fun j hj => by
   rw [size_flatK] at hj
   obtain ⟨x, v, q1, q2, q3⟩ := Lu hj
   have q1 : d[j / 3]? = some x := by simpa using q1
   have hc := d2 _ _ _ _ q1 q2
   have e : 0 + j / 3 * 3 + j % 3 = j := by omega
   rw [e] at hc
   refine ⟨?_, ?_⟩
   ·rw [cell_of_row w g _ _ _ _ k3, Nat.zero_add, hc, q3]
    rfl
   ·exact Blk.frozen k3 _
  have eg : ∀ args w, (callFunc 121 args).run Tryz.prog w = .ok (.enter 121 args) w := enters_of Tryz.func121 (by kernel_rfl) rfl
  have hgl : g < w.heap.size := (Array.getElem?_eq_some_iff.1 k3).1
  have hcon := AnyQ.slices_SortFunc Tryz.sortBd 3 Tryz.isAgg138 Tryz.sizeOf138 Br Gz (fun x v hv => by simp [Br] at hv; rcases hv with rfl | rfl | rfl <;> rfl) (fun x y : DY => EO x.1 y.1) OU 121 #[] g 0 hd.cap d.toArray w eg (fun _ _ _ _ x y => Qu x y _) hH hgl (by simp [dlen]; omega)
  rw [show d.toArray.size = l.length by simp [dlen]] at hcon
  rw [k2, show (l.length) = l.length from rfl]
  refine Calls.mono hcon fun e w' ⟨he, d', n, os, hp, hs, hw⟩ => ?_
  obtain ⟨hp1, hp2, hp3⟩ := hp
  have hd'l : d'.size = l.length := by rw [hp1]; simp [dlen]
  have hperm : d.Perm d'.toList := by
   have e1 : d'.extract 0 l.length = d' := by rw [← hd'l]; exact Array.extract_size
   have e2 : d.toArray.extract 0 l.length = d.toArray := by
    rw [show l.length = d.toArray.size by simp [dlen]]
    exact Array.extract_size
   rw [e1, e2] at hp3
   exact hp3.symm
  obtain ⟨l', l1, l2⟩ := ON hperm d1
  have hl'len : l'.length = l.length := l2.length_eq.symm
  have hord : BP l' := by
   unfold BP
   rw [List.pairwise_iff_getElem]
   intro i j hi hj hij
   obtain ⟨x, x1, x2, _⟩ := l1.get (List.getElem?_eq_getElem hi)
   obtain ⟨y, y1, y2, _⟩ := l1.get (List.getElem?_eq_getElem hj)
   have hso := hs i j (Nat.zero_le _) hij (by omega)
   have e1 : d'[i]! = x := by
    rw [Array.getElem?_toList] at x1
    rw [getElem!_def, x1]
   have e2 : d'[j]! = y := by
    rw [Array.getElem?_toList] at y1
    rw [getElem!_def, y1]
   rw [e1, e2] at hso
   simp only [ltOf, decide_eq_false_iff_not] at hso
   have hno : sLt l'[j].1 l'[i].1 = false := by
    cases hx : sLt l'[j].1 l'[i].1 with
    | false => rfl
    | true => exact absurd (B_.2 (by rw [x2, y2]; exact hx)) hso
   have hdiff : l'[i].1 ≠ l'[j].1 := by
    have hn' := FQ l2 hn
    unfold CI at hn'
    rw [List.nodup_iff_pairwise_ne, List.pairwise_map, List.pairwise_iff_getElem] at hn'
    exact hn' i j hi hj hij
   rcases C6 l'[i].1 l'[j].1 with q | q | q
   ·exact q
   ·exact absurd q hdiff
   ·rw [q] at hno; cases hno
  have hl' : l' = BB l := DE hord (CA hn) ((l2.symm).trans (DG l).symm)
  subst hl'
  obtain ⟨w1, w2, w3⟩ := N6 w g n d' os cs _ k3
  rw [← hw] at w1 w2 w3
  have hfits' : d'.size * 3 ≤ cs.size := by rw [hd'l]; rw [← dlen]; simpa using hfits
  have hupd : Upd S ι (AF S r (some (EG (BB l) ys))) ι := fun id b hb => by
   by_cases e : id = r
   ·subst e
    rw [sr] at hb
    cases hb
    exact ⟨_, AB _ _ _, by simp [AJ.len, BT], fun _ => ⟨rfl, rfl⟩⟩
   ·exact ⟨b, by rw [AG _ e]; exact hb, Nat.le_refl _, fun _ => ⟨rfl, rfl⟩⟩
  have hotherg : ∀ id b g', id ≠ r → S id = some b → (ι id).g = some g' → g' ≠ g := fun id b g' hne hb hg' e => by
   subst e
   exact hne (hO.2 id r b _ g' hb sr hg' (by rw [hh]; exact k1))
  have hFit : Fit σ w' := fun p x hp => by
   have hlt := hF.lt hp
   by_cases e : p.block = g
   ·rw [k9 p e] at hp; cases hp
   ·exact (BX (w2 _ hlt e)).trans (hF p x hp)
  refine ⟨_, σ, ι, he, hS', hupd, ⟨fun id b hb => ?_, fun id id' b b' g' q1 q2 q3 q4 => ?_⟩, .tup (fun _ => undef) rfl (by simp) (by simp), hFit, fun _ _ h => h, fun _ _ _ => rfl, ?_, w3, fun g' q1 q2 => ?_, fun id b g' q1 q2 => ?_⟩
  ·by_cases e : id = r
   ·subst e
    rw [AB] at hb
    cases hb
    rw [hh]
    have hlen' : ((BB l).map B2 ++ ys).length = l.length + ys.length := by rw [List.length_append, List.length_map, BT]
    refine .mrow k1 k2 w1 (by rw [hlen', ← hlen]; exact k4) k5 (by rw [Pc]; exact k6) (fun x hx => ?_) (fun k x j a hx ha => ?_) k9
    ·rcases List.mem_append.1 hx with hx | hx
     ·exact Jq x hx
     ·exact hys x hx
    rcases Nat.lt_or_ge k l.length with hk | hk
    ·rw [List.getElem?_append_left (by rw [List.length_map, BT]; exact hk), List.getElem?_map, Option.map_eq_some_iff] at hx
     obtain ⟨b, hb, rfl⟩ := hx
     obtain ⟨y, y1, y2, y3⟩ := l1.get hb
     obtain ⟨v, v1, v2⟩ := y3.get ha
     exact ⟨v, Qb hfits' (by simpa using y1) v1, v2⟩
    ·rw [List.getElem?_append_right (by rw [List.length_map, BT]; exact hk), List.length_map, BT] at hx
     obtain ⟨v, v1, v2⟩ := k8 k x j a (by rw [List.getElem?_append_right (by rw [List.length_map]; exact hk), List.length_map]; exact hx) ha
     exact ⟨v, by rw [Oh (by rw [hd'l]; omega)]; exact v1, v2⟩
   ·rw [AG _ e] at hb
    refine (hO.1 id b hb).mono (fun _ _ h => h) hupd (fun g' hg' => w2 g' ((hO.1 id b hb).gsome hg') (hotherg id b g' e hb hg')) (fun _ _ _ _ => rfl)
  ·have back : ∀ i c, AF S r (some (EG (BB l) ys)) i = some c → ∃ c', S i = some c' := fun i c hc => by
    by_cases e : i = r
    ·subst e; exact ⟨_, sr⟩
    ·rw [AG _ e] at hc; exact ⟨c, hc⟩
   obtain ⟨c1, c1'⟩ := back _ _ q1
   obtain ⟨c2, c2'⟩ := back _ _ q2
   exact hO.2 _ _ _ _ _ c1' c2' q3 q4
  ·rw [hw]
   exact ⟨rfl, rfl, rfl⟩
  ·exact w2 g' q1 fun e => q2 r _ sr (by rw [hh, e]; exact k1)
  ·refine .inr fun hno => ?_
   by_cases e : id = r
   ·subst e; exact hno id _ sr q2
   ·rw [AG _ e] at q1; exact hno id _ q1 q2
theorem My (l : List Bd) (hn : CI l) (hl : l.length ≤ 100000) (r : Nat) (hr : 1000 ≤ r) (S : AA) (sr : S r = some (EH l)) :
  Ak Tryz.prog 120 [.one (.row r l.length), .one (.fn 121 [])] S (.tup []) (AF S r (some (EH (BB l)))) := by
 intro hS σ w vs ι hG hF hO hv
 cases hv with
 | @cons v1 _ _ _ h1 hv =>
 cases hv with
 | @cons v2 _ _ _ h2 hv =>
 cases hv
 obtain ⟨b, b1, b2, b3⟩ := B9 (AP h1)
 rw [sr] at b1
 cases b1
 have hv1 := b3 (by simp [AJ.len])
 subst hv1
 have hv2 : v2 = .func (.func 121) #[] #[] := by
  cases AP h2 with
  | @fn _ vs _ c q1 q2 q3 =>
   have e : vs = #[] := Array.eq_empty_of_size_eq_zero (by simpa using q1)
   rw [e]
 subst hv2
 have e : ∀ m : List Bd, EH m = EG m [] := fun m => by rw [EG, List.append_nil]
 rw [e] at sr ⊢
 exact Od l [] (by simp) hn hl r hr S sr hS σ w ι hF hO
theorem Rd (l : List Bd) (hn : CI l) (hl : l.length ≤ 100000) (r : Nat) (hr : 1000 ≤ r) (S : AA) (sr : S r = some (EH l)) :
  Ak Tryz.prog 108 [.one (.row r l.length)] S (.one (.row r l.length)) (AF S r (some (EH (BB l)))) := by
 refine Ia.acS fun hS C hC => ?_
 unfold ES
 repeat' with_reducible first | refine W ?_ | refine Z0 ?_ | ((first | refine Wo fun K hK => ?_ | refine Wq ?_ | refine Wr ?_); (try simp only [go_sem, fN, seval, eT, iR]); (repeat refine Ai ?_); (try (refine hK _ ?_; clear hK K)))
 refine ⟨_, _, My l hn hl (up1 r) (A9 r) (upS S) (by rw [BW, sr]; rfl), ?_⟩
 repeat' with_reducible first | refine W ?_ | refine Z0 ?_ | ((first | refine Wo fun K hK => ?_ | refine Wq ?_ | refine Wr ?_); (try simp only [go_sem, fN, seval, eT, iR]); (repeat refine Ai ?_); (try (refine hK _ ?_; clear hK K)))
 have hc := Ax (b := EH (BB l)) hS hr rfl
 refine Jy trivial ?_ (Fk (n := l.length) hr) (fun i b _ h => (hc i b h).2) (FZ hc) hc
 simp only [go_sem, fN, seval, eT, iR, AD, AE, AL]

def HN : IR :=
 (.seq (.ops [.i 2 (.mov (.c (.one (.full []))))]) (.seq (.ops [.i 3 (.mov (.c (.one (.full []))))]) (.seq (.seq (.ops [.i 4 (.mov (.n 0))]) (.block 0 (.loop (.seq (.seq (.ops [.m 7 4, .m 8 0, .i 9 (.len false (.t 8)), .i 10 (.bin .lss (.t 7) (.t 9))]) (.cond (.t 10) .skip (.exit 0))) (.seq (.block 1 (.seq (.ops [.m 13 3, .m 14 0, .m 15 4, .i 16 (.indexAddr 3 (.t 14) (.t 15)), .L 17 3 16, .i 18 (.buildSlice false 138 3 [.t 17]), .i 19 (.append true 138 3 56 (.t 13) (.t 18)), .m 3 19]) (.seq (.ops [.m 20 3, .i 21 (.len false (.t 20)), .i 22 (.bin .sub (.t 21) (.n 1)), .m 5 22]) (.block 2 (.loop (.seq (.seq (.ops [.m 23 5, .i 24 (.bin .gtr (.t 23) (.n 0)), .m 25 24, .mk (some 26) (some (25, true)) (.mov (.t 3)) .no, .mk (some 27) (some (25, true)) (.mov (.t 5)) .no, .mk (some 28) (some (25, true)) (.indexAddr 3 (.t 26) (.t 27)) .no, .mk (some 29) (some (25, true)) (.fieldAddr 0 (.t 28)) .no, .mk (some 30) (some (25, true)) (.load false 1 (.t 29)) .no, .mk (some 31) (some (25, true)) (.mov (.t 3)) .no, .mk (some 32) (some (25, true)) (.mov (.t 5)) .no, .mk (some 33) (some (25, true)) (.bin .sub (.t 32) (.n 1)) .no, .mk (some 34) (some (25, true)) (.indexAddr 3 (.t 31) (.t 33)) .no, .mk (some 35) (some (25, true)) (.fieldAddr 0 (.t 34)) .no, .mk (some 36) (some (25, true)) (.load false 1 (.t 35)) .no, .mk (some 37) (some (25, true)) (.bin .lss (.t 30) (.t 36)) .no, .i 38 (.pick (.t 25) (.t 37) (.c (.one (.st (.bool false)))))]) (.cond (.t 38) .skip (.exit 2))) (.seq (.block 3 (.seq (.ops [.m 41 3, .m 42 5, .i 43 (.indexAddr 3 (.t 41) (.t 42)), .L 44 3 43, .i 6 (.alloc 138 [.st (.str (ByteArray.mk (#[]))), .st (.str (ByteArray.mk (#[]))), .full []]), .s 3 6 44]) (.seq (.ops [.m 45 3, .m 46 5, .m 47 3, .m 48 5, .i 49 (.bin .sub (.t 48) (.n 1)), .i 50 (.indexAddr 3 (.t 47) (.t 49)), .L 51 3 50, .i 52 (.indexAddr 3 (.t 45) (.t 46)), .s 3 52 51]) (.ops [.m 53 3, .m 54 5, .i 55 (.bin .sub (.t 54) (.n 1)), .L 56 3 6, .i 57 (.indexAddr 3 (.t 53) (.t 55)), .s 3 57 56])))) (.ops [.m 39 5, .i 40 (.bin .sub (.t 39) (.n 1)), .m 5 40])))))))) (.ops [.m 11 4, .i 12 (.bin .add (.t 11) (.n 1)), .m 4 12])))))) (.seq (.ops [.m 58 3, .m 2 58]) .ret))))
theorem Lf : OkF Tryz.prog 101 59 [28, 34, 43, 50, 52, 57, 19] HN [.t 2] := .of Tryz.func101 rfl rfl (by kernel_rfl) rfl

theorem M5 {l : List Bd} {b : Bd} {k : Nat} (hk : k ≤ l.length) (h1 : ∀ c ∈ l.take k, sLt b.1 c.1 = false) (h2 : ∀ c, l[k]? = some c → sLt b.1 c.1 = true) : E2 b l = l.take k ++ b :: l.drop k := by
 induction l generalizing k with
 | nil => simp [E2]
 | cons c l ih =>
  cases k with
  | zero =>
   unfold E2
   rw [if_pos (h2 c rfl)]
   rfl
  | succ k =>
   unfold E2
   rw [if_neg (by rw [h1 c (by simp)]; simp), ih (by simpa using hk) (fun c hc => h1 c (by simp [hc])) (fun c hc => h2 c (by simpa using hc))]
   rfl
def Bz (acc : List Bd) (b : Bd) (k : Nat) : List Bd := acc.take k ++ b :: acc.drop k
theorem FT (acc : List Bd) (b : Bd) (k : Nat) : (Bz acc b k).length = acc.length + 1 := by
 have := congrArg List.length (List.take_append_drop k acc)
 unfold Bz
 rw [List.length_append] at this ⊢
 rw [List.length_cons]
 omega
theorem NI {acc : List Bd} {b : Bd} {k : Nat} (h : k ≤ acc.length) : (Bz acc b k)[k]? = some b := by
 unfold Bz
 rw [List.getElem?_append_right (by rw [List.length_take]; omega), List.length_take, Nat.min_eq_left h, Nat.sub_self]
 rfl
theorem LU {acc : List Bd} {b c : Bd} {k : Nat} (h : acc[k]? = some c) : (Bz acc b (k + 1))[k]? = some c := by
 have := Bo h
 unfold Bz
 rw [List.getElem?_append_left (by rw [List.length_take]; omega), List.getElem?_take, if_pos (by omega), h]
theorem L6 {acc : List Bd} {b c : Bd} {k : Nat} (h : acc[k]? = some c) : ((Bz acc b (k + 1)).set (k + 1) c).set k b = Bz acc b k := by
 have hk := Bo h
 apply List.ext_getElem?
 intro i
 have hl : ((Bz acc b (k + 1)).set (k + 1) c).length = acc.length + 1 := by rw [List.length_set, FT]
 rw [List.getElem?_set, List.getElem?_set]
 unfold Bz at hl ⊢
 by_cases h1 : k = i
 ·subst h1
  rw [if_pos rfl, if_pos (by rw [hl]; omega), List.getElem?_append_right (by rw [List.length_take]; omega), List.length_take, Nat.min_eq_left (by omega), Nat.sub_self]
  rfl
 ·rw [if_neg h1]
  by_cases h2 : k + 1 = i
  ·subst h2
   have e := FT acc b (k + 1)
   unfold Bz at e
   rw [if_pos rfl, if_pos (by rw [e]; omega), List.getElem?_append_right (by rw [List.length_take]; omega), List.length_take, Nat.min_eq_left (by omega), show k + 1 - k = 1 by omega, List.getElem?_cons_succ, List.getElem?_drop, Nat.add_zero, h]
  ·rw [if_neg h2]
   rcases Nat.lt_or_ge i k with h3 | h3
   ·rw [List.getElem?_append_left (by rw [List.length_take]; omega), List.getElem?_append_left (by rw [List.length_take]; omega), List.getElem?_take, List.getElem?_take, if_pos (by omega), if_pos h3]
   ·rw [List.getElem?_append_right (by rw [List.length_take]; omega), List.getElem?_append_right (by rw [List.length_take]; omega), List.length_take, List.length_take, Nat.min_eq_left (by omega), Nat.min_eq_left (by omega)]
    obtain ⟨j, rfl⟩ : ∃ j, i = k + 2 + j := ⟨i - (k + 2), by omega⟩
    rw [show k + 2 + j - (k + 1) = j + 1 by omega, show k + 2 + j - k = j + 1 + 1 by omega, List.getElem?_cons_succ, List.getElem?_cons_succ, List.getElem?_drop, List.getElem?_drop]
    congr 1
    omega
theorem LT (acc : List Bd) (b : Bd) : Bz acc b acc.length = acc ++ [b] := by
 unfold Bz
 rw [List.take_length, List.drop_length]
theorem OI (l : List Bd) (hn : CI l) (hl : l.length ≤ 100000) : AT Tryz.prog 101 [Em l] (Em (BB l)) := by
 refine Lf.ac fun C hC => ?_
 unfold HN
 repeat' with_reducible first | refine W ?_ | refine Z0 ?_ | ((first | refine Wo fun K hK => ?_ | refine Wp ?_ | refine Wq ?_ | refine Wr ?_); (try simp only [go_sem, fN, seval, eT, iR, dT, dF, nL]); (repeat refine Ai ?_); (try (refine hK _ ?_; clear hK K)); try refine iC ?_)
 refine IWP.ghost (AW.ownM 3 900 138 3 rfl rfl (by rw [hC]; decide)) ?_
 refine IWP.loopD [6] (fun m s => ∃ i, i ≤ l.length ∧ m = l.length - i ∧ s.env 0 = Em l ∧ s.env 3 = .one (.row 900 i) ∧ s.env 4 = Ab i ∧ s.S 900 = some (EH (BB (l.take i))) ∧ s.S 6 = none) l.length ⟨0, Nat.zero_le _, rfl, rfl, rfl, rfl, rfl, rfl⟩ ?_
 rintro m ⟨env, S⟩ ⟨i, hi, rfl, e0, e3, e4, s900, s6⟩
 simp only at e0 e3 e4 s900 s6
 have hlen : (BB (l.take i)).length = i := by rw [BT, List.length_take]; omega
 have hnt : ∀ j, CI (l.take j) := fun j => by
  unfold CI
  rw [List.map_take]
  exact hn.sublist (List.take_sublist _ _)
 by_cases hlt : (i : Int) < l.length
 ·obtain ⟨b, hb⟩ := Ac (show i < l.length by omega)
  have ho := CA (hnt i)
  have hmap : (BB (l.take i)).map B2 ++ [B2 b] = (Bz (BB (l.take i)) b i).map B2 := by
   have := LT (BB (l.take i)) b
   rw [hlen] at this
   rw [this, List.map_append]
   rfl
  have hsnoc : BB (l.take (i + 1)) = E2 b (BB (l.take i)) := by rw [Am hb, Mi]
  generalize hacc : BB (l.take i) = acc at *
  repeat' with_reducible first | refine W ?_ | refine Z0 ?_ | ((first | refine Wo fun K hK => ?_ | refine Wp ?_ | refine Wq ?_ | refine Wr ?_); (try simp only [go_sem, fN, seval, eT, iR, e0, e3, e4, s900, s6, hlt, hb, hlen, B2, dT, dF, nL]); (repeat refine Ai ?_); (try (refine hK _ ?_; clear hK K)); try refine iC ?_)
  refine IWP.loopD [6] (fun m s => ∃ k, k ≤ i ∧ m = k ∧ (∀ c ∈ acc.drop k, sLt b.1 c.1 = true) ∧ s.env 0 = Em l ∧ s.env 3 = .one (.row 900 (i + 1)) ∧ s.env 4 = Ab i ∧ s.env 5 = Ab k ∧ s.S 900 = some (EH (Bz acc b k)) ∧ s.S 6 = none) i ⟨i, Nat.le_refl _, rfl, ?_, ?_⟩ ?_
  ·rw [← hlen, List.drop_length]; simp
  ·simp only [go_sem, fN, seval, eT, iR, e0, e3, e4, s6, hlen]
   refine ⟨by congr 3; omega, ?_⟩
   show AJ.mrow _ _ (acc.map B2 ++ [B2 b]) = _
   rw [hmap]
  rintro k ⟨env2, S2⟩ ⟨_, hk, rfl, hd, e0, e3, e4, e5, s900, s6⟩
  simp only at e0 e3 e4 e5 s900 s6
  have hcl := FT acc b k
  rw [hlen] at hcl
  have hck := NI (b := b) (show k ≤ acc.length by omega)
  have hend : (∀ c, acc[k - 1]? = some c → 0 < k → sLt b.1 c.1 = false) → E2 b acc = Bz acc b k := fun h => by
   refine M5 (by omega) (fun c hc => ?_) fun c hc => hd c (by rw [By hc]; simp)
   cases k with
   | zero => simp at hc
   | succ k =>
    obtain ⟨p, hp⟩ := Ac (show k < acc.length by omega)
    have h1 := h p hp (by omega)
    obtain ⟨j, hj, rfl⟩ := List.getElem_of_mem hc
    rw [List.length_take] at hj
    rw [List.getElem_take]
    have hcj : acc[j]? = some acc[j] := List.getElem?_eq_getElem (by omega)
    cases hx : sLt b.1 acc[j].1 with
    | false => rfl
    | true =>
     rcases Nat.lt_or_ge j k with h3 | h3
     ·have := B0 hx (G7 ho hcj hp h3)
      rw [this] at h1; cases h1
     ·have e : j = k := by omega
      subst e
      rw [hp] at hcj
      cases hcj
      rw [hx] at h1; cases h1
  by_cases hk0 : 0 < (k : Int)
  ·obtain ⟨k, rfl⟩ : ∃ q, k = q + 1 := ⟨k - 1, by omega⟩
   obtain ⟨c, hc⟩ := Ac (show k < acc.length by omega)
   have hcp := LU (b := b) hc
   have hz : (((k + 1 : Nat) : Int) - 1).toNat = k := by omega
   have hz0 : (0 : Int) ≤ ((k + 1 : Nat) : Int) - 1 := by omega
   have hl1 : k + 1 < i + 1 := by omega
   have hl2 : k < i + 1 := by omega
   cases hx : sLt b.1 c.1 with
   | true =>
    have hkk : ¬ k + 1 = k := by omega
    repeat' with_reducible first | refine W ?_ | refine Z0 ?_ | ((first | refine Wo fun K hK => ?_ | refine Wp ?_ | refine Wq ?_ | refine Wr ?_); (try simp only [go_sem, fN, seval, eT, iR, e0, e3, e4, e5, s900, s6, hk0, hck, hcp, hz, hz0, hcl, hl1, hl2, hx, B2, List.length_set, List.getElem?_set, hkk, dT, dF, nL]); (repeat refine Ai ?_); (try (refine hK _ ?_; clear hK K)); try refine iC ?_)
    refine AI ⟨k, by omega, k, by omega, rfl, fun d hd' => ?_, ?_⟩
    ·rw [By hc] at hd'
     rcases List.mem_cons.1 hd' with rfl | hd'
     ·exact hx
     ·exact hd d hd'
    ·simp only [go_sem, fN, seval, AS.drop, Aa, AC.clears, AC.clear, AC.highs, AC.high, Bool.not_false, Bool.true_and, Bool.and_self, AV.purge, AV.purges, AC.purge, AJ.purge, List.contains_cons, List.contains_nil, Nat.reduceBEq, Bool.or_self, Bool.or_false, Bool.false_or, Bool.or_true, eT, iR, e0, e3, e4, e5, s6]
     refine ⟨by congr 3; omega, ?_⟩
     show AJ.mrow _ _ ((((Bz acc b (k + 1)).map B2).set (k + 1) (B2 c)).set k (B2 b)) = _
     rw [← List.map_set, ← List.map_set, L6 hc]
   | false =>
    repeat' with_reducible first | refine W ?_ | refine Z0 ?_ | ((first | refine Wo fun K hK => ?_ | refine Wp ?_ | refine Wq ?_ | refine Wr ?_); (try simp only [go_sem, fN, seval, eT, iR, e0, e3, e4, e5, s900, s6, hk0, hck, hcp, hz, hz0, hcl, hl1, hl2, hx, B2, dT, dF, nL]); (repeat refine Ai ?_); (try (refine hK _ ?_; clear hK K)); try refine iC ?_)
    refine AI ⟨l.length - (i + 1), by omega, i + 1, by omega, rfl, ?_⟩
    rw [hsnoc, hend fun d hd' _ => by
     rw [show k + 1 - 1 = k by omega, hc] at hd'
     cases hd'
     exact hx]
    simp only [go_sem, fN, seval, AS.drop, Aa, AC.clears, AC.clear, AC.highs, AC.high, Bool.not_false, Bool.true_and, Bool.and_self, AV.purge, AV.purges, AC.purge, AJ.purge, List.contains_cons, List.contains_nil, Nat.reduceBEq, Bool.or_self, Bool.or_false, Bool.false_or, Bool.or_true, eT, iR, e0, e3, e4, s900, s6]
    congr 3
  ·repeat' with_reducible first | refine W ?_ | refine Z0 ?_ | ((first | refine Wo fun K hK => ?_ | refine Wp ?_ | refine Wq ?_ | refine Wr ?_); (try simp only [go_sem, fN, seval, eT, iR, e0, e3, e4, e5, s900, s6, hk0, dT, dF, nL]); (repeat refine Ai ?_); (try (refine hK _ ?_; clear hK K)); try refine iC ?_)
   refine AI ⟨l.length - (i + 1), by omega, i + 1, by omega, rfl, ?_⟩
   rw [hsnoc, hend fun d hd' h => by omega]
   simp only [go_sem, fN, seval, AS.drop, Aa, AC.clears, AC.clear, AC.highs, AC.high, Bool.not_false, Bool.true_and, Bool.and_self, AV.purge, AV.purges, AC.purge, AJ.purge, List.contains_cons, List.contains_nil, Nat.reduceBEq, Bool.or_self, Bool.or_false, Bool.false_or, Bool.or_true, eT, iR, e0, e3, e4, s900, s6]
   congr 3
 ·refine IWP.ghost (AW.share (id := 900) s900) ?_
  repeat' with_reducible first | refine W ?_ | refine Z0 ?_ | ((first | refine Wo fun K hK => ?_ | refine Wp ?_ | refine Wq ?_ | refine Wr ?_); (try simp only [go_sem, fN, seval, eT, iR, e0, e3, e4, hlt, dT, dF, nL]); (repeat refine Ai ?_); (try (refine hK _ ?_; clear hK K)); try refine iC ?_)
  simp only [go_sem, fN, seval, AQ, AS.result, AD, AE, AL, hlen]
  rw [List.take_of_length_le (by omega)]

def NS (b : Bd) : KV × AV := (.s b.1, aTm b.2)
abbrev Ov (l : List Bd) : AJ := .map none (l.map NS)
theorem G4 (l : List Bd) (n : ByteArray) : DJ (l.map NS) (.s n) = (lookup l n).map fun t => aTm t := by
 induction l with
 | nil => rfl
 | cons b l ih =>
  unfold lookup
  rw [List.map_cons, DJ, List.find?_cons]
  by_cases h : b.1 = n
  ·have h1 : decide (b.1 = n) = true := decide_eq_true h
   rw [if_pos (show (NS b).1 = KV.s n from congrArg KV.s h)]
   simp only [h1]
   rfl
  ·have h1 : decide (b.1 = n) = false := decide_eq_false h
   rw [if_neg (show ¬ (NS b).1 = KV.s n from fun e => h (KV.s.inj e)), ih]
   simp only [h1]
   rfl
theorem Oj {l : List Bd} {n : ByteArray} (h : lookup l n = none) (t : Tm) : GZ (l.map NS) (.s n) (aTm t) = (l ++ [(n, t)]).map NS := by
 rw [KD (by rw [G4, h]; rfl), List.map_append]
 rfl
theorem Rg (p : Tm) (hz : p.size ≤ 1000000) : ∀ (t : Tm) (a0 : Nat) (l : List Bd) (S : AA), 1000 ≤ a0 → S a0 = some (Ov l) →
  Ak Tryz.prog 107 [aTm p, aTm t, .one (.mptr a0)] S (Ah (p.mt t l).2) (AF S a0 (some (Ov (p.mt t l).1))) := by
 induction h : SizeOf.sizeOf p using Nat.strongRecOn generalizing p with
 | _ N ih =>
 subst h
 intro t a0 l S ha0 hSa
 have hs := Tm.size_eq p
 have hln := Tm.length_le p.args
 refine I1.acS fun hS C hC => ?_
 have n3 : S 3 = none := AZ hS (by omega)
 have n4 : S 4 = none := AZ hS (by omega)
 have n7 : S 7 = none := AZ hS (by omega)
 have d3 : ¬ 3 = a0 := by omega
 have d4 : ¬ 4 = a0 := by omega
 have d7 : ¬ 7 = a0 := by omega
 have e3 : ¬ a0 = 3 := by omega
 have e4 : ¬ a0 = 4 := by omega
 have e7 : ¬ a0 = 7 := by omega
 unfold E5
 repeat' with_reducible first | refine W ?_ | refine Z0 ?_ | ((first | refine Wo fun K hK => ?_ | refine Wp ?_ | refine Wq ?_ | refine Wr ?_); (try simp only [go_sem, fN, seval, eT, iR, n3, n4, dT, dF, nL]); (repeat refine Ai ?_); (try (refine hK _ ?_; clear hK K)); try refine iC ?_)
 refine ⟨_, DC _, ?_⟩
 cases hv : Aw p.name with
 | true =>
  cases hl : lookup l p.name with
  | some x =>
   repeat' (first | (with_reducible first | refine W ?_ | refine Z0 ?_ | ((first | refine Wo fun K hK => ?_ | refine Wp ?_ | refine Wq ?_ | refine Wr ?_); (try simp only [go_sem, fN, seval, eT, iR, hv, hSa, n3, n4, n7, d3, d4, d7, e3, e4, e7, Bh, C_, KV.of, Ef, G4, hl, dT, dF, nL]); (repeat refine Ai ?_); (try (refine hK _ ?_; clear hK K)); try refine iC ?_)) | refine Cg _ (Rk _ _) ?_)
   rw [Tm.mt_old hv hl]
   refine CO (Ah (x.beq t)) hS ha0 rfl trivial rfl rfl (by simp only [go_sem, fN, seval, eT, iR, e3, e4, e7, hSa]) fun i hi hne => ?_
   have i3 : ¬ i = 3 := by omega
   have i4 : ¬ i = 4 := by omega
   have i7 : ¬ i = 7 := by omega
   simp only [go_sem, fN, seval, eT, iR, i3, i4, i7]
  | none =>
   repeat' with_reducible first | refine W ?_ | refine Z0 ?_ | ((first | refine Wo fun K hK => ?_ | refine Wp ?_ | refine Wq ?_ | refine Wr ?_); (try simp only [go_sem, fN, seval, eT, iR, hv, hSa, n3, n4, n7, d3, d4, d7, e3, e4, e7, Bh, C_, KV.of, Ef, G4, hl, Oj, dT, dF, nL]); (repeat refine Ai ?_); (try (refine hK _ ?_; clear hK K)); try refine iC ?_)
   rw [Tm.mt_new hv hl]
   refine CO (Ah true) hS ha0 rfl trivial rfl rfl (by simp only [go_sem, fN, seval, eT, iR, e3, e4, e7, hSa]) fun i hi hne => ?_
   have i3 : ¬ i = 3 := by omega
   have i4 : ¬ i = 4 := by omega
   have i7 : ¬ i = 7 := by omega
   simp only [go_sem, fN, seval, eT, iR, i3, i4, i7, hne]
 | false =>
  by_cases hn : p.name = t.name
  case neg =>
   have hc : ¬ (p.name = t.name ∧ p.args.length = t.args.length) := fun h => hn h.1
   repeat' with_reducible first | refine W ?_ | refine Z0 ?_ | ((first | refine Wo fun K hK => ?_ | refine Wp ?_ | refine Wq ?_ | refine Wr ?_); (try simp only [go_sem, fN, seval, eT, iR, hv, hSa, n3, n4, n7, d3, d4, d7, e3, e4, e7, hn, dT, dF, nL]); (repeat refine Ai ?_); (try (refine hK _ ?_; clear hK K)); try refine iC ?_)
   rw [Tm.mt_clash hv hc]
   refine CO (Ah false) hS ha0 rfl trivial rfl rfl (by simp only [go_sem, fN, seval, eT, iR, e3, e4, hSa]) fun i hi hne => ?_
   have i3 : ¬ i = 3 := by omega
   have i4 : ¬ i = 4 := by omega
   simp only [go_sem, fN, seval, eT, iR, i3, i4]
  by_cases hlen : p.args.length = t.args.length
  case neg =>
   have hc : ¬ (p.name = t.name ∧ p.args.length = t.args.length) := fun h => hlen h.2
   have hlen' : ¬ (p.args.length : Int) = t.args.length := by omega
   repeat' with_reducible first | refine W ?_ | refine Z0 ?_ | ((first | refine Wo fun K hK => ?_ | refine Wp ?_ | refine Wq ?_ | refine Wr ?_); (try simp only [go_sem, fN, seval, eT, iR, hv, hSa, n3, n4, n7, d3, d4, d7, e3, e4, e7, hn, hlen', dT, dF, nL]); (repeat refine Ai ?_); (try (refine hK _ ?_; clear hK K)); try refine iC ?_)
   rw [Tm.mt_clash hv hc]
   refine CO (Ah false) hS ha0 rfl trivial rfl rfl (by simp only [go_sem, fN, seval, eT, iR, e3, e4, hSa]) fun i hi hne => ?_
   have i3 : ¬ i = 3 := by omega
   have i4 : ¬ i = 4 := by omega
   simp only [go_sem, fN, seval, eT, iR, i3, i4]
  have hlen' : (p.args.length : Int) = t.args.length := by omega
  have hknot : p.mt t l = Tm.mtL p.args t.args l := Tm.mt_knot hv hn hlen
  repeat' with_reducible first | refine W ?_ | refine Z0 ?_ | ((first | refine Wo fun K hK => ?_ | refine Wp ?_ | refine Wq ?_ | refine Wr ?_); (try simp only [go_sem, fN, seval, eT, iR, hv, hSa, n3, n4, n7, d3, d4, d7, e3, e4, e7, hn, hlen', dT, dF, nL]); (repeat refine Ai ?_); (try (refine hK _ ?_; clear hK K)); try refine iC ?_)
  refine IWP.loop (fun m x => ∃ k, k ≤ p.args.length ∧ m = p.args.length - k ∧ (Tm.mtL (p.args.take k) (t.args.take k) l).2 = true ∧ x.env 2 = .one (.mptr a0) ∧ x.env 3 = .one (.ptr 3 1 0 0) ∧ x.env 4 = .one (.ptr 4 1 0 0) ∧ x.env 44 = Ab p.args.length ∧ x.env 45 = Ab k ∧
    x.S 3 = some (.box 25 [.st (.str t.name), .st (.list (p.args.map Ae))]) ∧ x.S 4 = some (.box 25 [.st (.str t.name), .st (.list (t.args.map Ae))]) ∧ x.S a0 = some (Ov (Tm.mtL (p.args.take k) (t.args.take k) l).1) ∧ ∀ i, 1000 ≤ i → i ≠ a0 → x.S i = S i)
   p.args.length ⟨0, Nat.zero_le _, rfl, by simp [Tm.mtL], rfl, rfl, rfl, by simp only [go_sem, fN, seval, eT, iR, hlen'], rfl, by simp only [go_sem, fN, seval, eT, iR, hn], rfl, by (simp only [go_sem, fN, seval, eT, iR, e3, e4, hSa]); simp [Tm.mtL], fun i hi hne => ?_⟩ ?_
  ·have i3 : ¬ i = 3 := by omega
   have i4 : ¬ i = 4 := by omega
   simp only [go_sem, fN, seval, eT, iR, i3, i4]
  rintro m ⟨env, S1⟩ ⟨k, hk, rfl, hok, e2, e3', e4', e44, e45, s3, s4, sa, hrest⟩
  simp only at e2 e3' e4' e44 e45 s3 s4 sa hrest
  have hend : ∀ (b : Bool) (r : List Bd) (env : Nat → AV) (S2 : AA), env 6 = Ah b → S2 a0 = some (Ov r) → (∀ i, 1000 ≤ i → i ≠ a0 → S2 i = S i) → FP C [.t 6] (Ah b) (AF S a0 (some (Ov r))) .ret ⟨env, S2⟩ := fun b r env S2 h6 h1 h2 =>
   CO (Ah b) hS ha0 rfl trivial (by simp only [AD, AE, AL, h6, Option.map_some]) rfl h1 h2
  by_cases hlt : (k : Int) < p.args.length
  ·obtain ⟨a, ha⟩ := Ac (show k < p.args.length by omega)
   obtain ⟨c, hc⟩ := Ac (show k < t.args.length by omega)
   have hstep := Tm.mtL_take hlen ha hc hok
   repeat' with_reducible first | refine W ?_ | refine Z0 ?_ | ((first | refine Wo fun K hK => ?_ | refine Wp ?_ | refine Wq ?_ | refine Wr ?_); (try simp only [go_sem, fN, seval, eT, iR, e2, e3', e4', e44, e45, s3, s4, sa, hlt, ha, hc, dT, dF, nL]); (repeat refine Ai ?_); (try (refine hK _ ?_; clear hK K)); try refine iC ?_)
   refine ⟨_, _, ih _ (Tm.lt_of_arg (AO ha)) a (by have := Tm.size_mem (AO ha); omega) rfl c (up1 a0) (Tm.mtL (p.args.take k) (t.args.take k) l).1 (upS S1) (A9 a0) (by rw [BW, sa]; rfl), ?_⟩
   rw [← hstep]
   cases hb : (Tm.mtL (p.args.take (k + 1)) (t.args.take (k + 1)) l).2 with
   | true =>
    repeat' with_reducible first | refine W ?_ | refine Z0 ?_ | ((first | refine Wo fun K hK => ?_ | refine Wp ?_ | refine Wq ?_ | refine Wr ?_); (try simp only [go_sem, fN, seval, eT, iR, hb, e2, e3', e4', e44, e45, s3, s4, dT, dF, nL]); (repeat refine Ai ?_); (try (refine hK _ ?_; clear hK K)); try refine iC ?_)
    refine AI ⟨p.args.length - (k + 1), by omega, k + 1, by omega, rfl, hb, ?_⟩
    simp only [go_sem, fN, seval, eT, iR, e2, e3', e4', e44, s3, s4, d3, d4]
    refine ⟨by congr 3, fun i hi hne => ?_⟩
    simp only [go_sem, fN, seval, eT, iR, hne]
    exact hrest i hi hne
   | false =>
    have hno := Tm.mtL_no hlen hb
    repeat' with_reducible first | refine W ?_ | refine Z0 ?_ | ((first | refine Wo fun K hK => ?_ | refine Wp ?_ | refine Wq ?_ | refine Wr ?_); (try simp only [go_sem, fN, seval, eT, iR, hb, e2, e3', e4', e44, e45, s3, s4, dT, dF, nL]); (repeat refine Ai ?_); (try (refine hK _ ?_; clear hK K)); try refine iC ?_)
    rw [hknot, hno]
    refine hend false _ _ _ rfl (by simp only [go_sem, fN, seval, eT, iR]) fun i hi hne => ?_
    simp only [go_sem, fN, seval, eT, iR, hne]
    exact hrest i hi hne
  ·rw [List.take_of_length_le (by omega), List.take_of_length_le (by omega)] at hok sa
   repeat' with_reducible first | refine W ?_ | refine Z0 ?_ | ((first | refine Wo fun K hK => ?_ | refine Wp ?_ | refine Wq ?_ | refine Wr ?_); (try simp only [go_sem, fN, seval, eT, iR, e44, e45, hlt, dT, dF, nL]); (repeat refine Ai ?_); (try (refine hK _ ?_; clear hK K)); try refine iC ?_)
   rw [hknot, hok]
   exact hend true _ _ _ rfl sa hrest
theorem I8 {l m : List Bd} (h : l.Perm m) (hn : CI m) : BB l = BB m :=
 DE (CA (FQ h.symm hn)) (CA hn) ((DG l).trans (h.trans (DG m).symm))
theorem Ml (p t : Tm) (hp : p.size ≤ 100000) (ht : t.size ≤ 1000000) : AT Tryz.prog 80 [aTm p, aTm t] (.tup [Em (A3 p t), Ah (CE p t)]) := by
 have hnm := IQ p t
 have hml := NH p t
 have hms := Q7 p t
 refine JJ.ac fun C hC => ?_
 unfold FB
 repeat' with_reducible first | refine W ?_ | refine Z0 ?_ | ((first | refine Wo fun K hK => ?_ | refine Wp ?_ | refine Wq ?_ | refine Wr ?_); (try simp only [go_sem, fN, seval, eT, iR, dT, dF, nL]); (repeat refine Ai ?_); (try (refine hK _ ?_; clear hK K)); try refine iC ?_)
 refine ⟨_, _, Rg p (by omega) t (up1 10) [] _ (A9 10) (by rw [BW]; rfl), ?_⟩
 cases hc : (p.mt t []).2 with
 | false =>
  repeat' with_reducible first | refine W ?_ | refine Z0 ?_ | ((first | refine Wo fun K hK => ?_ | refine Wp ?_ | refine Wq ?_ | refine Wr ?_); (try simp only [go_sem, fN, seval, eT, iR, hc, dT, dF, nL]); (repeat refine Ai ?_); (try (refine hK _ ?_; clear hK K)); try refine iC ?_)
  simp only [go_sem, fN, seval, AQ, AS.result, AD, AE, AL]
  unfold A3 CE
  rw [hc]
  rfl
 | true =>
  have hca : A3 p t = BB (p.mt t []).1 := by unfold A3; rw [if_pos hc]
  have his : CE p t = true := hc
  repeat' with_reducible first | refine W ?_ | refine Z0 ?_ | ((first | refine Wo fun K hK => ?_ | refine Wp ?_ | refine Wq ?_ | refine Wr ?_); (try simp only [go_sem, fN, seval, eT, iR, hc, Bh, dT, dF, nL]); (repeat refine Ai ?_); (try (refine hK _ ?_; clear hK K)); try refine iC ?_)
  rw [hca, his]
  generalize (p.mt t []).1 = l at *
  refine IWP.ghost (AW.ownM 7 500 138 3 (by rfl) (by rfl) (by rw [hC]; decide)) ?_
  refine IWP.loopD [9] (fun m x => ∃ seen : List Nat, seen.Nodup ∧ (∀ j ∈ seen, j < l.length) ∧ m = l.length - seen.length ∧ x.env 7 = .one (.row 500 seen.length) ∧ x.env 17 = .one (.ptr 17 1 0 0) ∧ x.S 10 = some (Ov l) ∧ x.S 17 = some (.iter (.mptr 10) l.length seen) ∧ x.S 500 = some (EH (met l seen)) ∧ x.S 9 = none) l.length ⟨[], List.nodup_nil, by simp, rfl, rfl, rfl, by simp only [go_sem, fN, seval, eT, iR], by simp only [go_sem, fN, seval, eT, iR], rfl, rfl⟩ ?_
  rintro m ⟨env, S⟩ ⟨seen, hnd, hlt, rfl, e7, e17, s10, s17, s500, s9⟩
  simp only at e7 e17 s10 s17 s500 s9
  have hsl := Fx hnd hlt
  have hmt := KY hlt
  repeat' with_reducible first | refine W ?_ | refine Z0 ?_ | ((first | refine Wo fun K hK => ?_ | refine Wp ?_ | refine Wq ?_ | refine Wr ?_); (try simp only [go_sem, fN, seval, eT, iR, e7, e17, s10, s17, Cs, dT, dF, nL]); (repeat refine Ai ?_); (try (refine hK _ ?_; clear hK K)); try refine iC ?_)
  refine ⟨fun hall => ?_, fun j x c hx hj hkv => ?_⟩
  ·have hmp := MX hnd hlt hall
   have hl' : seen.length = l.length := by rw [← hmt]; exact hmp.length_eq
   refine hK _ ?_
   clear hK K
   refine Wb ?_
   refine Wa ?_
   with_reducible refine Wp ?_
   simp only [go_sem, fN, seval, true_implies, false_implies, implies_true, dT, dF, nL]
   (try with_reducible refine iC ?_)
   repeat' (with_reducible first | refine Wb ?_ | refine Wc ?_ | refine Wd ?_ | refine We ?_ | refine Wg ?_ | refine Wh ?_ | refine Wi ?_ | refine Wj ?_ | refine Wk (by decide) ?_ | refine Wl ?_ | refine Wm ?_ | refine Wn ?_)
   refine IWP.mid (fun x => x.env 4 = .one (.row 500 l.length) ∧ x.env 5 = Ah true ∧ x.S 500 = some (EH (BB l))) ?_ ?_
   ·have hs := Rd (met l seen) (FQ hmp.symm hnm) (by omega) (up1 500) (A9 500) (upS S) (by rw [BW, s500]; rfl)
    rw [hmt, hl', I8 hmp hnm] at hs
    rw [hl'] at e7
    repeat' with_reducible first | refine W ?_ | refine Z0 ?_ | ((first | refine Wo fun K hK => ?_ | refine Wq ?_ | refine Wr ?_); (try simp only [go_sem, fN, seval, eT, iR, e7]); (repeat refine Ai ?_); (try (refine hK _ ?_; clear hK K)))
    refine ⟨_, _, hs, ?_⟩
    repeat' with_reducible first | refine W ?_ | refine Z0 ?_ | ((first | refine Wo fun K hK => ?_ | refine Wq ?_ | refine Wr ?_); (try simp only [go_sem, fN, seval, eT, iR, e7]); (repeat refine Ai ?_); (try (refine hK _ ?_; clear hK K)))
    refine ⟨rfl, ?_⟩
    simp only [go_sem, fN, seval, eT, iR]
   rintro ⟨env, S⟩ ⟨e4, e5, s500⟩
   simp only at e4 e5 s500
   refine IWP.ghost (AW.share (id := 500) s500) ?_
   repeat' with_reducible first | refine W ?_ | refine Z0 ?_ | ((first | refine Wo fun K hK => ?_ | refine Wq ?_ | refine Wr ?_); (try simp only [go_sem, fN, seval, eT, iR]); (repeat refine Ai ?_); (try (refine hK _ ?_; clear hK K)))
   simp only [go_sem, fN, seval, AQ, AS.result, AD, AE, AL, e4, e5, BT]
  ·rw [Option.map_eq_some_iff] at hx
   obtain ⟨b, hb, rfl⟩ := hx
   have hbz := hms b (AO hb)
   have hjl : j < l.length := by
    rcases Nat.lt_or_ge j l.length with h | h
    ·exact h
    ·rw [List.getElem?_eq_none h] at hb; cases hb
   have hcv : c = .str b.1 := by
    have : some (SV.str b.1) = some c := hkv
    cases this
    rfl
   subst hcv
   have hnd' : (seen ++ [j]).Nodup := by
    rw [List.nodup_append]
    exact ⟨hnd, by simp, fun a ha b hb e => hj (by rw [List.mem_singleton.1 hb] at e; rw [← e]; exact ha)⟩
   have hlt' : ∀ i ∈ seen ++ [j], i < l.length := fun i hi => by
    rcases List.mem_append.1 hi with h | h
    ·exact hlt i h
    ·rw [List.mem_singleton.1 h]; exact hjl
   have hsl' := Fx hnd' hlt'
   rw [List.length_append, List.length_singleton] at hsl'
   refine hK _ ?_
   clear hK K
   refine Wb ?_
   repeat' (first | (with_reducible first | refine W ?_ | refine Z0 ?_ | ((first | refine Wo fun K hK => ?_ | refine Wp ?_ | refine Wq ?_ | refine Wr ?_); (try simp only [go_sem, fN, seval, eT, iR, e7, e17, s10, s17, s500, s9, Cs, List.getLast?_concat, hb, NS, KV.sv, hmt, B2, dT, dF, nL]); (repeat refine Ai ?_); (try (refine hK _ ?_; clear hK K)); try refine iC ?_)) | refine Cg _ (PP b.2 (by omega)) ?_)
   refine AI ⟨l.length - (seen.length + 1), by omega, seen ++ [j], hnd', hlt', by rw [List.length_append, List.length_singleton], ?_⟩
   rw [Lh hb]
   simp only [go_sem, fN, seval, AS.drop, Aa, AC.clears, AC.clear, AC.highs, AC.high, Bool.not_false, Bool.true_and, Bool.and_self, AV.purge, AV.purges, AC.purge, AJ.purge, List.contains_cons, List.contains_nil, Nat.reduceBEq, Bool.or_self, Bool.or_false, Bool.false_or, Bool.or_true, eT, iR, e7, e17, s10, s500]
   show AJ.mrow _ _ ((met l seen).map B2 ++ [B2 b]) = EH _
   rw [EH, List.map_append]
   rfl

def Ec (u : Tm) (left : Int) : Tm × Int := if (u.size : Int) ≤ left then (u, left - u.size) else (Tm.nil, -1)
abbrev GU (s : List Bd) (left : Int) : AJ := .box 141 [.st (.list (s.map B2)), .st (.int .i64 left)]
theorem Gk {u : Tm} {left : Int} (h : (u.size : Int) ≤ left) : Ec u left = (u, left - u.size) := if_pos h
theorem GI {u : Tm} {left : Int} (h : ¬ (u.size : Int) ≤ left) : Ec u left = (Tm.nil, -1) := if_neg h
theorem JO (s : List Bd) (h40 : s.length ≤ 100000) (ho : BP s) (turn : Bool) (f : Tm → Tm) (t : Tm) (hl : turn = true → lookup s t.name = none)
  (ih : ∀ a ∈ t.args, ∀ (a0 : Nat) (left : Int) (S : AA), 1000 ≤ a0 → 0 ≤ left → left ≤ 1000000 → S a0 = some (GU s left) →
   Ak Tryz.prog 109 [.one (.ptr a0 1 0 0), aTm a, Ah turn] S (aTm (Ec (f a) left).1) (AF S a0 (some (GU s (Ec (f a) left).2))))
  (a0 : Nat) (left : Int) (S : AA) (ha0 : 1000 ≤ a0) (h0 : 0 ≤ left) (h1 : left ≤ 1000000) (hSa : S a0 = some (GU s left)) :
  Ak Tryz.prog 109 [.one (.ptr a0 1 0 0), aTm t, Ah turn] S (aTm (Ec (.mk t.name (t.args.map f)) left).1) (AF S a0 (some (GU s (Ec (.mk t.name (t.args.map f)) left).2))) := by
 refine Bg.acS fun hS C hC => ?_
 have hu : (Tm.mk t.name (t.args.map f)).size = 1 + Tm.sizes (t.args.map f) := rfl
 have hlen := Tm.length_le (t.args.map f)
 rw [List.length_map] at hlen
 have n4 : S 4 = none := AZ hS (by omega)
 have n6 : S 6 = none := AZ hS (by omega)
 have n7 : S 7 = none := AZ hS (by omega)
 have n9 : S 9 = none := AZ hS (by omega)
 have n11 : S 11 = none := AZ hS (by omega)
 have n900 : S 900 = none := AZ hS (by omega)
 have d4 : ¬ 4 = a0 := by omega
 have d6 : ¬ 6 = a0 := by omega
 have d7 : ¬ 7 = a0 := by omega
 have d9 : ¬ 9 = a0 := by omega
 have d11 : ¬ 11 = a0 := by omega
 have d900 : ¬ 900 = a0 := by omega
 have e4 : ¬ a0 = 4 := by omega
 have e6 : ¬ a0 = 6 := by omega
 have e7 : ¬ a0 = 7 := by omega
 have e9 : ¬ a0 = 9 := by omega
 have e11 : ¬ a0 = 11 := by omega
 have e900 : ¬ a0 = 900 := by omega
 unfold BF
 cases turn
 case' false =>
  repeat' with_reducible first | refine W ?_ | refine Z0 ?_ | ((first | refine Wo fun K hK => ?_ | refine Wq ?_ | refine Wr ?_); (try simp only [go_sem, fN, seval, eT, iR, hSa, n4, n6, n7, d4, d6, d7, e4, e6, e7]); (repeat refine Ai ?_); (try (refine hK _ ?_; clear hK K)))
  with_reducible refine Wp ?_
  simp only [go_sem, fN, seval, true_implies, false_implies, implies_true, dT, dF, nL]
  (try with_reducible refine iC ?_)
  repeat' with_reducible first | refine W ?_ | refine Z0 ?_ | ((first | refine Wo fun K hK => ?_ | refine Wq ?_ | refine Wr ?_); (try simp only [go_sem, fN, seval, eT, iR, hSa, n4, n6, n7, n9, d4, d6, d7, d9, e4, e6, e7, e9]); (repeat refine Ai ?_); (try (refine hK _ ?_; clear hK K)))
 case' true =>
  have hln := hl rfl
  repeat' with_reducible first | refine W ?_ | refine Z0 ?_ | ((first | refine Wo fun K hK => ?_ | refine Wq ?_ | refine Wr ?_); (try simp only [go_sem, fN, seval, eT, iR, hSa, n4, n6, n7, d4, d6, d7, e4, e6, e7]); (repeat refine Ai ?_); (try (refine hK _ ?_; clear hK K)))
  with_reducible refine Wp ?_
  simp only [go_sem, fN, seval, true_implies, false_implies, implies_true, dT, dF, nL]
  (try with_reducible refine iC ?_)
  repeat' (first | (with_reducible first | refine W ?_ | refine Z0 ?_ | ((first | refine Wo fun K hK => ?_ | refine Wq ?_ | refine Wr ?_); (try simp only [go_sem, fN, seval, eT, iR, hSa, n4, n6, n7, d4, d6, d7, e4, e6, e7, hln]); (repeat refine Ai ?_); (try (refine hK _ ?_; clear hK K)))) | refine Cg _ (QN s h40 ho t.name) ?_)
  with_reducible refine Wp ?_
  simp only [go_sem, fN, seval, true_implies, false_implies, implies_true, dT, dF, nL]
  (try with_reducible refine iC ?_)
  repeat' with_reducible first | refine W ?_ | refine Z0 ?_ | ((first | refine Wo fun K hK => ?_ | refine Wq ?_ | refine Wr ?_); (try simp only [go_sem, fN, seval, eT, iR, hSa, n4, n6, n7, n9, d4, d6, d7, d9, e4, e6, e7, e9]); (repeat refine Ai ?_); (try (refine hK _ ?_; clear hK K)))
 all_goals
  by_cases hz : left = 0
  ·subst hz
   have hno : ¬ ((Tm.mk t.name (t.args.map f)).size : Int) ≤ 0 := by rw [hu]; omega
   rw [GI hno]
   with_reducible refine Wp ?_
   simp only [go_sem, fN, seval, true_implies, false_implies, implies_true, dT, dF, nL]
   (try with_reducible refine iC ?_)
   repeat' with_reducible first | refine W ?_ | refine Z0 ?_ | ((first | refine Wo fun K hK => ?_ | refine Wq ?_ | refine Wr ?_); (try simp only [go_sem, fN, seval, eT, iR, hSa, n4, n6, n7, n9, d4, d6, d7, d9, e4, e6, e7, e9]); (repeat refine Ai ?_); (try (refine hK _ ?_; clear hK K)))
   refine CO (.agg [.st (.str ⟨#[]⟩), .full []]) hS ha0 rfl trivial ?_ ?_ ?_ fun i hi hne => ?_
   ·simp only [go_sem, fN, seval, eT, iR, AD, AE, AL, e4, e6, e7, e9, d4, d6, d7, d9]
   ·simp only [go_sem, fN, seval, eT, iR, Tm.nil]
    rfl
   ·simp only [go_sem, fN, seval, eT, iR, e4, e6, e7, e9]
   ·have i4 : ¬ i = 4 := by omega
    have i6 : ¬ i = 6 := by omega
    have i7 : ¬ i = 7 := by omega
    simp only [go_sem, fN, seval, eT, iR, i4, i6, i7, hne]
  have hz' : ¬ left - 1 < 0 := by omega
  with_reducible refine Wp ?_
  simp only [go_sem, fN, seval, true_implies, false_implies, implies_true, dT, dF, nL, hz']
  (try with_reducible refine iC ?_)
  repeat' with_reducible first | refine W ?_ | refine Z0 ?_ | ((first | refine Wo fun K hK => ?_ | refine Wq ?_ | refine Wr ?_); (try simp only [go_sem, fN, seval, eT, iR, hSa, n4, n6, n7, n9, d4, d6, d7, d9, e4, e6, e7, e9]); (repeat refine Ai ?_); (try (refine hK _ ?_; clear hK K)))
  refine IWP.ghost (AW.ownC 9 1 900 25 2 (xs := ([] : List Tm).map Ae) (by simp only [go_sem, fN, seval, eT, iR, d9, d4, d6, d7, e9]; rfl) rfl (by simp only [go_sem, fN, seval, eT, iR, n900, d900]) C1) ?_
  refine IWP.loopD [11] (fun m x => ∃ k, k ≤ t.args.length ∧ m = t.args.length - k ∧ (Tm.sizes ((t.args.take k).map f) : Int) ≤ left - 1 ∧ x.env 0 = .one (.ptr a0 1 0 0) ∧ x.env 2 = Ah _ ∧ x.env 6 = .one (.ptr 6 1 0 0) ∧ x.env 9 = .one (.ptr 9 1 0 0) ∧ x.env 44 = .one (.st (.list (t.args.map Ae))) ∧ x.env 45 = Ab t.args.length ∧ x.env 46 = Ab k ∧
    x.S 6 = some (.box 25 [.st (.str ⟨#[]⟩), .full []]) ∧ x.S 9 = some (.box 25 [.st (.str t.name), .row 900 k]) ∧ x.S 900 = some (.arow 25 2 (((t.args.take k).map f).map Ae)) ∧ x.S 11 = none ∧ x.S a0 = some (GU s (left - 1 - Tm.sizes ((t.args.take k).map f))) ∧ ∀ i, 1000 ≤ i → i ≠ a0 → x.S i = S i)
   t.args.length ⟨0, Nat.zero_le _, rfl, by show (0 : Int) ≤ _; omega, rfl, rfl, rfl, rfl, rfl, rfl, rfl, by simp only [go_sem, fN, seval, eT, iR, d6, d4, d7, d9, e6], by (simp only [go_sem, fN, seval, eT, iR, d9]); rfl, by simp only [go_sem, fN, seval, eT, iR, e9], by simp only [go_sem, fN, seval, eT, iR, n11, d11], by (simp only [go_sem, fN, seval, eT, iR, e9, e900]); simp [Tm.sizes], fun i hi hne => ?_⟩ ?_
  ·have i4 : ¬ i = 4 := by omega
   have i6 : ¬ i = 6 := by omega
   have i7 : ¬ i = 7 := by omega
   have i9 : ¬ i = 9 := by omega
   have i900 : ¬ i = 900 := by omega
   simp only [go_sem, fN, seval, eT, iR, i4, i6, i7, i9, i900, hne]
  rintro m ⟨env, S1⟩ ⟨k, hk, rfl, hsz, e0, e2, e6', e9', e44, e45, e46, s6, s9, s900, s11, sa, hrest⟩
  simp only at e0 e2 e6' e9' e44 e45 e46 s6 s9 s900 s11 sa hrest
  have hlk : (t.args.take k).length = k := by rw [List.length_take]; omega
  have hle := Tm.sizes_take_le (t.args.map f) k
  rw [← List.map_take] at hle
  have hkl := Tm.length_le ((t.args.take k).map f)
  rw [List.length_map, hlk] at hkl
  by_cases hlt : (k : Int) < t.args.length
  ·obtain ⟨a, ha⟩ := Ac (show k < t.args.length by omega)
   have ha' : (t.args.map f)[k]? = some (f a) := by rw [List.getElem?_map, ha]; rfl
   have z1 := Tm.sizes_take ha'
   have z2 := Tm.sizes_take_le (t.args.map f) (k + 1)
   rw [← List.map_take, ← List.map_take] at z1
   rw [← List.map_take] at z2
   repeat' with_reducible first | refine W ?_ | refine Z0 ?_ | ((first | refine Wo fun K hK => ?_ | refine Wq ?_ | refine Wr ?_); (try simp only [go_sem, fN, seval, eT, iR, e0, e2, e6', e9', e44, e45, e46, s6, s9, s900, s11, sa, hlt]); (repeat refine Ai ?_); (try (refine hK _ ?_; clear hK K)))
   with_reducible refine Wp ?_
   simp only [go_sem, fN, seval, true_implies, false_implies, implies_true, dT, dF, nL, hlt]
   (try with_reducible refine iC ?_)
   repeat' with_reducible first | refine W ?_ | refine Z0 ?_ | ((first | refine Wo fun K hK => ?_ | refine Wq ?_ | refine Wr ?_); (try simp only [go_sem, fN, seval, eT, iR, e0, e2, e6', e9', e44, e45, e46, s6, s9, s900, s11, sa, d11, d9, e11, ha]); (repeat refine Ai ?_); (try (refine hK _ ?_; clear hK K)))
   have hcall := ih a (AO ha) (up1 a0) (left - 1 - Tm.sizes ((t.args.take k).map f)) (upS (AF (AF S1 11 (some (.box 25 [.st (.str ⟨#[]⟩), .full []]))) 11 (some (.box 25 [.st (.str a.name), .st (.list (a.args.map Ae))])))) (A9 a0) (by omega) (by omega) (by rw [BW, AG _ e11, AG _ e11, sa]; rfl)
   by_cases hfit : ((f a).size : Int) ≤ left - 1 - Tm.sizes ((t.args.take k).map f)
   ·rw [Gk hfit] at hcall
    refine ⟨_, _, hcall, ?_⟩
    have hge : ¬ left - 1 - Tm.sizes ((t.args.take k).map f) - (f a).size < 0 := by omega
    repeat' with_reducible first | refine W ?_ | refine Z0 ?_ | ((first | refine Wo fun K hK => ?_ | refine Wq ?_ | refine Wr ?_); (try simp only [go_sem, fN, seval, eT, iR, e0, e2, e6', e9', e44, e45, e46, s6, s9, s900, s11, d11, d9, e11, e9, e900, d900, hlk]); (repeat refine Ai ?_); (try (refine hK _ ?_; clear hK K)))
    with_reducible refine Wp ?_
    simp only [go_sem, fN, seval, true_implies, false_implies, implies_true, dT, dF, nL, hge]
    (try with_reducible refine iC ?_)
    repeat' with_reducible first | refine W ?_ | refine Z0 ?_ | ((first | refine Wo fun K hK => ?_ | refine Wq ?_ | refine Wr ?_); (try simp only [go_sem, fN, seval, eT, iR, e0, e2, e6', e9', e44, e45, e46, s6, s9, s900, s11, d11, d9, e11]); (repeat refine Ai ?_); (try (refine hK _ ?_; clear hK K)))
    refine AI ⟨t.args.length - (k + 1), by omega, k + 1, by omega, rfl, ?_⟩
    have hib : (a0 == 11) = false := by simp; omega
    have hzz : ((Tm.sizes ((t.args.take (k + 1)).map f) : Nat) : Int) = Tm.sizes ((t.args.take k).map f) + (f a).size := by omega
    refine ⟨by omega, ?_⟩
    simp only [go_sem, fN, seval, AS.drop, Aa, AC.clears, AC.clear, AC.highs, AC.high, Bool.not_false, Bool.true_and, Bool.and_self, AV.purge, AV.purges, AC.purge, AJ.purge, List.contains_cons, List.contains_nil, Nat.reduceBEq, Bool.or_self, Bool.or_false, Bool.false_or, Bool.or_true, eT, iR, e0, e2, e6', e9', e44, e45, s6, s9, s900, d11, d9, e11, e9, e900, d900, d6, hib]
    refine ⟨by congr 3, by rw [Am ha, List.map_append, List.map_append, List.map_cons, List.map_nil, List.map_cons, List.map_nil, Ba], ?_, fun i hi hne => ?_⟩
    ·congr 5
     omega
    ·have i9 : ¬ i = 9 := by omega
     have i11 : ¬ i = 11 := by omega
     have i900 : ¬ i = 900 := by omega
     have i11b : (i == 11) = false := by simp; omega
     simp only [go_sem, fN, seval, AS.drop, Aa, AC.clears, AC.clear, AC.highs, AC.high, Bool.not_false, Bool.true_and, Bool.and_self, AV.purge, AV.purges, AC.purge, AJ.purge, List.contains_cons, List.contains_nil, Nat.reduceBEq, Bool.or_self, Bool.or_false, Bool.false_or, Bool.or_true, eT, iR, i9, i11, i11b, i900, hne]
     rw [hrest i hi hne]
     exact NL (by decide) fun b hb => (hS i b hb).2
   ·have hno : ¬ ((Tm.mk t.name (t.args.map f)).size : Int) ≤ left := by rw [hu]; omega
    rw [GI hfit] at hcall
    refine ⟨_, _, hcall, ?_⟩
    repeat' with_reducible first | refine W ?_ | refine Z0 ?_ | ((first | refine Wo fun K hK => ?_ | refine Wq ?_ | refine Wr ?_); (try simp only [go_sem, fN, seval, eT, iR, e0, e2, e6', e9', e44, e45, e46, s6, s9, s900, s11, d11, d9, e11, e9, e900, d900, hlk]); (repeat refine Ai ?_); (try (refine hK _ ?_; clear hK K)))
    with_reducible refine Wp ?_
    simp only [go_sem, fN, seval, true_implies, false_implies, implies_true, dT, dF, nL]
    (try with_reducible refine iC ?_)
    repeat' with_reducible first | refine W ?_ | refine Z0 ?_ | ((first | refine Wo fun K hK => ?_ | refine Wq ?_ | refine Wr ?_); (try simp only [go_sem, fN, seval, eT, iR, e0, e2, e6', e9', e44, e45, e46, s6, s9, s900, s11, d11, d9, e11, e6, d6, d900, e900]); (repeat refine Ai ?_); (try (refine hK _ ?_; clear hK K)))
    rw [GI hno]
    refine CO (.agg [.st (.str ⟨#[]⟩), .full []]) hS ha0 rfl trivial ?_ ?_ ?_ fun i hi hne => ?_
    ·simp only [go_sem, fN, seval, eT, iR, AD, AE, AL, e6', s6, e6, e9, e11, e900, d6, d9, d11, d900]
    ·simp only [go_sem, fN, seval, eT, iR, Tm.nil]
     rfl
    ·simp only [go_sem, fN, seval, eT, iR, e6, e9, e11, e900]
    ·have i6 : ¬ i = 6 := by omega
     have i9 : ¬ i = 9 := by omega
     have i11 : ¬ i = 11 := by omega
     have i900 : ¬ i = 900 := by omega
     simp only [go_sem, fN, seval, eT, iR, i6, i9, i11, i900, hne]
     exact hrest i hi hne
  ·have hall : t.args.take k = t.args := List.take_of_length_le (by omega)
   rw [hall] at hlk s900 hsz sa
   have hyes : ((Tm.mk t.name (t.args.map f)).size : Int) ≤ left := by rw [hu]; omega
   repeat' with_reducible first | refine W ?_ | refine Z0 ?_ | ((first | refine Wo fun K hK => ?_ | refine Wq ?_ | refine Wr ?_); (try simp only [go_sem, fN, seval, eT, iR, e0, e2, e6', e9', e44, e45, e46, s6, s9, s900, s11, sa, hlt]); (repeat refine Ai ?_); (try (refine hK _ ?_; clear hK K)))
   with_reducible refine Wp ?_
   simp only [go_sem, fN, seval, true_implies, false_implies, implies_true, dT, dF, nL, hlt]
   (try with_reducible refine iC ?_)
   repeat' with_reducible first | refine W ?_ | refine Z0 ?_ | ((first | refine Wo fun K hK => ?_ | refine Wq ?_ | refine Wr ?_); (try simp only [go_sem, fN, seval, eT, iR, e0, e2, e6', e9', e44, e45, e46, s6, s9, s900, s11, sa, d6]); (repeat refine Ai ?_); (try (refine hK _ ?_; clear hK K)))
   rw [Gk hyes]
   refine CO (.agg [.st (.str t.name), .row 900 k]) hS ha0 rfl trivial ?_ ?_ ?_ fun i hi hne => ?_
   ·simp only [go_sem, fN, seval, eT, iR, AD, AE, AL, e6', s6]
   ·simp only [go_sem, fN, seval, eT, iR, s900, hlk]
    rfl
   ·simp only [go_sem, fN, seval, eT, iR, e6, sa, hu]
    rw [show left - 1 - (Tm.sizes (t.args.map f) : Int) = left - ((1 + Tm.sizes (t.args.map f) : Nat) : Int) by omega]
   ·have i6 : ¬ i = 6 := by omega
    simp only [go_sem, fN, seval, eT, iR, i6]
    exact hrest i hi hne
theorem RH (s : List Bd) (h40 : s.length ≤ 100000) (ho : BP s) (t : Tm) : ∀ (a0 : Nat) (left : Int) (S : AA), 1000 ≤ a0 → 0 ≤ left → left ≤ 1000000 → S a0 = some (GU s left) →
  Ak Tryz.prog 109 [.one (.ptr a0 1 0 0), aTm t, Ah false] S (aTm (Ec t left).1) (AF S a0 (some (GU s (Ec t left).2))) := by
 induction h : SizeOf.sizeOf t using Nat.strongRecOn generalizing t with
 | _ N ih =>
 subst h
 intro a0 left S h1 h2 h3 h4
 have := JO s h40 ho false id t (fun h => by cases h) (fun a ha => ih _ (Tm.lt_of_arg ha) a rfl) a0 left S h1 h2 h3 h4
 rw [List.map_id, Tm.eta] at this
 exact this
theorem Q2 (s : List Bd) (h40 : s.length ≤ 100000) (ho : BP s) (t : Tm) (hv : ∀ b ∈ s, Aw b.1 = true) (hchk : t.chk = 0) : ∀ (a0 : Nat) (left : Int) (S : AA), 1000 ≤ a0 → 0 ≤ left → left ≤ 1000000 → S a0 = some (GU s left) →
  Ak Tryz.prog 109 [.one (.ptr a0 1 0 0), aTm t, Ah true] S (aTm (Ec (t.on s) left).1) (AF S a0 (some (GU s (Ec (t.on s) left).2))) := by
 induction h : SizeOf.sizeOf t using Nat.strongRecOn generalizing t with
 | _ N ih =>
 subst h
 intro a0 left S ha0 h0 h1 hSa
 obtain ⟨c1, c2⟩ := Tm.chk_args hchk
 cases hl : lookup s t.name with
 | none =>
  have := JO s h40 ho true (Tm.on s) t (fun _ => hl) (fun a ha => ih _ (Tm.lt_of_arg ha) a (c2 a ha) rfl) a0 left S ha0 h0 h1 hSa
  rw [← Tm.on_knot (.inl hl)] at this
  exact this
 | some x =>
  obtain ⟨b, hb, hbn, _⟩ := Ij hl
  have hargs := c1 (by rw [← hbn]; exact hv b hb)
  rw [Tm.on_leaf hl hargs]
  refine Bg.acS fun hS C hC => ?_
  have n4 : S 4 = none := AZ hS (by omega)
  have n6 : S 6 = none := AZ hS (by omega)
  have n7 : S 7 = none := AZ hS (by omega)
  have e4 : ¬ a0 = 4 := by omega
  have e6 : ¬ a0 = 6 := by omega
  have e7 : ¬ a0 = 7 := by omega
  have d4 : ¬ 4 = a0 := by omega
  have d6 : ¬ 6 = a0 := by omega
  have d7 : ¬ 7 = a0 := by omega
  unfold BF
  repeat' with_reducible first | refine W ?_ | refine Z0 ?_ | ((first | refine Wo fun K hK => ?_ | refine Wq ?_ | refine Wr ?_); (try simp only [go_sem, fN, seval, eT, iR, hSa, n4, n6, n7, d4, d6, d7, e4, e6, e7]); (repeat refine Ai ?_); (try (refine hK _ ?_; clear hK K)))
  with_reducible refine Wp ?_
  simp only [go_sem, fN, seval, true_implies, false_implies, implies_true, dT, dF, nL]
  (try with_reducible refine iC ?_)
  repeat' (first | (with_reducible first | refine W ?_ | refine Z0 ?_ | ((first | refine Wo fun K hK => ?_ | refine Wq ?_ | refine Wr ?_); (try simp only [go_sem, fN, seval, eT, iR, hSa, n4, n6, n7, d4, d6, d7, e4, e6, e7, hl]); (repeat refine Ai ?_); (try (refine hK _ ?_; clear hK K)))) | refine Cg _ (QN s h40 ho t.name) ?_)
  with_reducible refine Wp ?_
  simp only [go_sem, fN, seval, true_implies, false_implies, implies_true, dT, dF, nL]
  (try with_reducible refine iC ?_)
  repeat' with_reducible first | refine W ?_ | refine Z0 ?_ | ((first | refine Wo fun K hK => ?_ | refine Wq ?_ | refine Wr ?_); (try simp only [go_sem, fN, seval, eT, iR, hSa, n4, n6, n7, d4, d6, d7, e4, e6, e7]); (repeat refine Ai ?_); (try (refine hK _ ?_; clear hK K)))
  have hcall := fun S' h => RH s h40 ho x (up1 a0) left S' (A9 a0) h0 h1 h
  refine ⟨_, _, hcall _ (by rw [BW]; (simp only [go_sem, fN, seval, eT, iR, e4, e6, e7, hSa])), ?_⟩
  repeat' with_reducible first | refine W ?_ | refine Z0 ?_ | ((first | refine Wo fun K hK => ?_ | refine Wq ?_ | refine Wr ?_); (try simp only [go_sem, fN, seval, eT, iR, e4, e6, e7, d4, d6, d7]); (repeat refine Ai ?_); (try (refine hK _ ?_; clear hK K)))
  refine CO (aTm (Ec x left).1) hS ha0 rfl trivial ?_ ?_ ?_ fun i hi hne => ?_
  ·simp only [go_sem, fN, seval, eT, iR, AD, AE, AL, e4, e6, e7, d4, d6, d7]
  ·simp only [go_sem, fN, seval, eT, iR]
  ·simp only [go_sem, fN, seval, eT, iR, e4, e6, e7]
  ·have i4 : ¬ i = 4 := by omega
   have i6 : ¬ i = 6 := by omega
   have i7 : ¬ i = 7 := by omega
   simp only [go_sem, fN, seval, eT, iR, i4, i6, i7, hne]
theorem Rw (s : List Bd) (h40 : s.length ≤ 100000) (ho : BP s) (t : Tm) (hv : ∀ b ∈ s, Aw b.1 = true) (hchk : t.chk = 0) : AT Tryz.prog 81 [Em s, aTm t] (.tup [aTm (Bt s t).1, Ah (Bt s t).2]) := by
 refine LS.ac fun C hC => ?_
 unfold HP
 repeat' with_reducible first | refine W ?_ | refine Z0 ?_ | ((first | refine Wo fun K hK => ?_ | refine Wq ?_ | refine Wr ?_); (try simp only [go_sem, fN, seval, eT, iR]); (repeat refine Ai ?_); (try (refine hK _ ?_; clear hK K)))
 have hcall := fun S' h => Q2 s h40 ho t hv hchk (up1 10) 2000 S' (A9 10) (by omega) (by omega) h
 refine ⟨_, _, hcall _ (by rw [BW]; rfl), ?_⟩
 by_cases hfit : ((t.on s).size : Int) ≤ 2000
 ·have e : Bt s t = (t.on s, true) := by
   unfold Bt
   rw [if_pos (by omega)]
  rw [Gk hfit]
  have hge : (0 : Int) ≤ 2000 - (t.on s).size := by omega
  repeat' with_reducible first | refine W ?_ | refine Z0 ?_ | ((first | refine Wo fun K hK => ?_ | refine Wq ?_ | refine Wr ?_); (try simp only [go_sem, fN, seval, eT, iR, hge]); (repeat refine Ai ?_); (try (refine hK _ ?_; clear hK K)))
  rw [e]
  simp only [go_sem, fN, seval, AQ, AS.result, AD, AE, AL]
 ·have e : Bt s t = (Tm.nil, false) := by
   unfold Bt
   rw [if_neg (by omega)]
  rw [GI hfit]
  repeat' with_reducible first | refine W ?_ | refine Z0 ?_ | ((first | refine Wo fun K hK => ?_ | refine Wq ?_ | refine Wr ?_); (try simp only [go_sem, fN, seval, eT, iR]); (repeat refine Ai ?_); (try (refine hK _ ?_; clear hK K)))
  rw [e]
  simp only [go_sem, fN, seval, AQ, AS.result, AD, AE, AL]

def Fy : IR :=
 (.seq (.ops [.i 1 (.box 25 (.t 0)), .i 2 (.mov (.n 0))]) (.seq (.ops [.i 3 (.mov (.n 1))]) (.seq (.seq (.ops [.f 6 1 1, .l 7 6, .i 8 (.len false (.t 7)), .i 9 (.mov (.n 0))]) (.block 0 (.loop (.seq (.ops [.i 10 (.bin .lss (.t 9) (.t 8))]) (.seq (.cond (.t 10) .skip (.exit 0)) (.seq (.block 1 (.seq (.ops [.i 11 (.indexAddr 2 (.t 7) (.t 9)), .L 12 2 11, .i 5 (.alloc 25 [.st (.str (ByteArray.mk (#[]))), .full []]), .s 2 5 12]) (.ops [.m 13 3, .L 14 2 5, .i 15 (.call 54 [.t 14]), .i 16 (.bin .add (.t 13) (.t 15)), .m 3 16]))) (.ops [.i 17 (.bin .add (.t 9) (.n 1)), .m 9 17]))))))) (.seq (.ops [.m 18 3, .m 2 18]) .ret))))
theorem Kp : OkF Tryz.prog 54 19 [] Fy [.t 2] := .of Tryz.func54 rfl rfl (by kernel_rfl) rfl

theorem Nt (t : Tm) (hz : t.size ≤ 1000000) : AT Tryz.prog 54 [aTm t] (Ab t.size) := by
 induction h : SizeOf.sizeOf t using Nat.strongRecOn generalizing t with
 | _ N ih =>
 subst h
 have hs := Tm.size_eq t
 have hln := Tm.length_le t.args
 refine Kp.ac fun C hC => ?_
 unfold Fy
 repeat' with_reducible first | refine W ?_ | refine Z0 ?_ | ((first | refine Wo fun K hK => ?_ | refine Wp ?_ | refine Wq ?_ | refine Wr ?_); (try simp only [go_sem, fN, seval, eT, iR, dT, dF, nL]); (repeat refine Ai ?_); (try (refine hK _ ?_; clear hK K)); try refine iC ?_)
 refine IWP.loopD [5] (fun m s => ∃ k, k ≤ t.args.length ∧ m = t.args.length - k ∧ s.env 3 = Ab ((1 + Tm.sizes (t.args.take k) : Nat) : Int) ∧ s.env 7 = GY t.args ∧ s.env 8 = Ab t.args.length ∧ s.env 9 = Ab k ∧ s.S 5 = none) t.args.length ⟨0, Nat.zero_le _, rfl, rfl, rfl, rfl, rfl, rfl⟩ ?_
 rintro m ⟨env, S⟩ ⟨k, hk, rfl, e3, e7, e8, e9, s5⟩
 simp only at e3 e7 e8 e9 s5
 by_cases hlt : (k : Int) < t.args.length
 ·obtain ⟨a, ha⟩ := Ac (show k < t.args.length by omega)
  have h1 := Tm.sizes_take ha
  have h2 := Tm.sizes_take_le t.args (k + 1)
  repeat' (first | (with_reducible first | refine W ?_ | refine Z0 ?_ | ((first | refine Wo fun K hK => ?_ | refine Wp ?_ | refine Wq ?_ | refine Wr ?_); (try simp only [go_sem, fN, seval, eT, iR, e3, e7, e8, e9, s5, hlt, ha, dT, dF, nL]); (repeat refine Ai ?_); (try (refine hK _ ?_; clear hK K)); try refine iC ?_)) | refine Cg _ (ih _ (Tm.lt_of_arg (AO ha)) a (by omega) rfl) ?_)
  refine AI ⟨t.args.length - (k + 1), by omega, k + 1, by omega, rfl, ?_⟩
  simp only [go_sem, fN, seval, AS.drop, Aa, AC.clears, AC.clear, AC.highs, AC.high, Bool.not_false, Bool.true_and, Bool.and_self, AV.purge, AV.purges, AC.purge, AJ.purge, List.contains_cons, List.contains_nil, Nat.reduceBEq, Bool.or_self, Bool.or_false, Bool.false_or, Bool.or_true, eT, iR, e3, e7, e8, e9, s5]
  exact ⟨by rw [h1]; congr 3; omega, by congr 3⟩
 ·repeat' with_reducible first | refine W ?_ | refine Z0 ?_ | ((first | refine Wo fun K hK => ?_ | refine Wp ?_ | refine Wq ?_ | refine Wr ?_); (try simp only [go_sem, fN, seval, eT, iR, e3, e7, e8, e9, hlt, dT, dF, nL]); (repeat refine Ai ?_); (try (refine hK _ ?_; clear hK K)); try refine iC ?_)
  simp only [go_sem, fN, seval, AQ, AS.result, AD, AE, AL]
  rw [List.take_of_length_le (by omega), hs]

theorem QU (l : List Tm) (h0 : 0 < l.length) (hl : l.length ≤ 1000000) : Hk Tryz.prog 98 [GY l] 25 2 (l.map Ae) true := by
 unfold Hk
 rw [List.length_map]
 refine BK.acS fun hS C hC => ?_
 unfold Ar
 have h0' : ¬ l.length = 0 := by omega
 have hb : l.length * 40 ≤ 140737488355328 := by omega
 repeat' with_reducible first | refine W ?_ | refine Z0 ?_ | ((first | refine Wo fun K hK => ?_ | refine Wp ?_ | refine Wq ?_ | refine Wr ?_); (try simp only [go_sem, fN, seval, eT, iR, h0', hb, dT, dF, nL]); (repeat refine Ai ?_); (try (refine hK _ ?_; clear hK K)); try refine iC ?_)
 exact R6 (mu := true) trivial 7 (by decide) rfl (fun i hi => by show AF _ _ _ _ = _; rw [AG _ (by omega)]; rfl) rfl
def LJ (r : Tm × Int × Int) : AV := .tup [aTm r.1, Ab r.2.1, Ab r.2.2]
theorem Rr {R : List Pr} (hR : Ce R) (t : Tm) (hc : t.chk = 0) (hz : t.size ≤ 1000000) (f : Nat) (hf : f ≤ R.length) : AT Tryz.prog 53 [Cx R, aTm t, Ab f] (LJ (GP t f (R.drop f))) := by
 unfold LJ
 have h40 := hR.len
 refine Hc.ac fun C hC => ?_
 unfold EC
 repeat' with_reducible first | refine W ?_ | refine Z0 ?_ | ((first | refine Wo fun K hK => ?_ | refine Wp ?_ | refine Wq ?_ | refine Wr ?_); (try simp only [go_sem, fN, seval, eT, iR, dT, dF, nL]); (repeat refine Ai ?_); (try (refine hK _ ?_; clear hK K)); try refine iC ?_)
 refine IWP.loop (fun m s => ∃ k, k ≤ R.length ∧ m = R.length - k ∧ GP t f (R.drop f) = GP t k (R.drop k) ∧ s.env 0 = Cx R ∧ s.env 4 = .one (.ptr 4 1 0 0) ∧ s.env 6 = .one (.ptr 6 1 0 0) ∧ s.S 4 = some (.box 25 [.st (.str t.name), .st (.list (t.args.map Ae))]) ∧ s.S 6 = some (.box 25 [.st (.str ⟨#[]⟩), .full []]) ∧ s.S 12 = none ∧ s.env 9 = Ab k) (R.length - f) ⟨f, hf, rfl, rfl, rfl, rfl, rfl, rfl, rfl, rfl, rfl⟩ ?_
 rintro m ⟨env, S⟩ ⟨k, hk, rfl, hrk, e0, e4, e6, s4, s6, s12, e9⟩
 simp only at e0 e4 e6 s4 s6 s12 e9
 rw [hrk]
 by_cases hlt : (k : Int) < R.length
 ·obtain ⟨r, hr⟩ := Ac (show k < R.length by omega)
  have hmem := AO hr
  have c1 := Tm.may_chk (hR.left r hmem)
  have c2 := Tm.may_chk (hR.right r hmem)
  have hok := Nd c1.1 hc
  have hd := By hr
  rw [hd, GP]
  by_cases hcase : CE r.1 t = true
  ·rw [if_pos hcase]
   have hon := Rw (A3 r.1 t) (by have := Lr (p := r.1) (t := t); omega) hok.ord r.2 hok.var c2.1
   by_cases hon2 : (Bt (A3 r.1 t) r.2).2 = true
   ·repeat' (first | (with_reducible first | refine W ?_ | refine Z0 ?_ | ((first | refine Wo fun K hK => ?_ | refine Wp ?_ | refine Wq ?_ | refine Wr ?_); (try simp only [go_sem, fN, seval, eT, iR, e0, e4, e6, s4, s6, s12, e9, hlt, hr, Db, hcase, hon2, dT, dF, nL]); (repeat refine Ai ?_); (try (refine hK _ ?_; clear hK K)); try refine iC ?_)) | refine Cg _ (Ml r.1 t (by omega) hz) ?_ | refine Cg _ (hon) ?_)
    simp only [go_sem, fN, seval, AQ, AS.result, AD, AE, AL, e6, s6, hon2]
   ·have hnil := Nz hon2
    simp only [Bool.not_eq_true] at hon2
    repeat' (first | (with_reducible first | refine W ?_ | refine Z0 ?_ | ((first | refine Wo fun K hK => ?_ | refine Wp ?_ | refine Wq ?_ | refine Wr ?_); (try simp only [go_sem, fN, seval, eT, iR, e0, e4, e6, s4, s6, s12, e9, hlt, hr, Db, hcase, hon2, dT, dF, nL]); (repeat refine Ai ?_); (try (refine hK _ ?_; clear hK K)); try refine iC ?_)) | refine Cg _ (Ml r.1 t (by omega) hz) ?_ | refine Cg _ (hon) ?_)
    simp only [go_sem, fN, seval, AQ, AS.result, AD, AE, AL, e6, s6, hon2, hnil]
    rfl
  ·rw [if_neg hcase]
   repeat' (first | (with_reducible first | refine W ?_ | refine Z0 ?_ | ((first | refine Wo fun K hK => ?_ | refine Wp ?_ | refine Wq ?_ | refine Wr ?_); (try simp only [go_sem, fN, seval, eT, iR, e0, e4, e6, s4, s6, s12, e9, hlt, hr, Db, hcase, dT, dF, nL]); (repeat refine Ai ?_); (try (refine hK _ ?_; clear hK K)); try refine iC ?_)) | refine Cg _ (Ml r.1 t (by omega) hz) ?_)
   refine AI ⟨R.length - (k + 1), by omega, k + 1, by omega, rfl, ?_, ?_⟩
   ·rfl
   ·simp only [go_sem, fN, seval, eT, iR, e0, e4, e6, s4, s6, s12, e9]
    congr 3
 ·have hd : R.drop k = [] := List.drop_of_length_le (by omega)
  rw [hd]
  repeat' with_reducible first | refine W ?_ | refine Z0 ?_ | ((first | refine Wo fun K hK => ?_ | refine Wp ?_ | refine Wq ?_ | refine Wr ?_); (try simp only [go_sem, fN, seval, eT, iR, e0, e4, e6, s4, s6, s12, e9, hlt, dT, dF, nL]); (repeat refine Ai ?_); (try (refine hK _ ?_; clear hK K)); try refine iC ?_)
  simp only [go_sem, fN, seval, AQ, AS.result, AD, AE, AL, e6, s6]
  rfl


theorem AW.freeze {C : Ctx} {s : AS} (id : Nat) (ts : List Nat) {ty : TypeId} {xs : List SV} (hS : s.S id = some (.box ty (xs.map .st))) (hl : 0 < xs.length) (ht : ∀ t ∈ ts, s.env t = .one (.ptr id 1 0 0)) :
  AW C s ⟨fun t => if t ∈ ts then .one (.eptr xs) else s.env t, AF s.S id (some (.dead 1 0))⟩ := fun a w ⟨σ, ι, R⟩ => by
 have hb := R.blk _ _ hS
 cases hb with
 | @box _ _ g vs h1 h2 h3 h4 h5 =>
  have hkeep := Dy (σ := σ) (w' := w) (g := g) (k := xs.length) (fun p x e hx => by rw [h5 _ e] at hx; cases hx)
  obtain ⟨hu, R'⟩ := R.turn (w' := w) hS (.dead 1 0) (ι id) (σ' := DK σ w g xs.length) hkeep (fun p hp _ => Dn (fun e => hp (by rw [e]; exact h1))) (DA R.fit) (Nat.le_refl _) (fun _ => ⟨rfl, rfl⟩) ⟨rfl, rfl, rfl⟩ (Nat.le_refl _) (fun _ _ _ => rfl) (fun g h => .inl h)
   (fun hu => .dead fun g' hg' => by rw [h1] at hg'; cases hg'; exact ⟨_, h3, rfl⟩)
  refine ⟨_, _, R'.size, fun i hi => ?_, R'.nod, R'.fit, R'.blk, R'.inj, R'.base, R'.ext, R'.old, R'.os, R'.grown, R'.same, R'.upd⟩
  show AN _ _ _ _ (if i ∈ ts then .one (.eptr xs) else s.env i)
  split
  ·rename_i hm
   have re := R.env i hi
   rw [ht i hm] at re
   obtain ⟨b, q1, q2, q3⟩ := Du (AP re)
   rw [hS] at q1
   cases q1
   obtain ⟨g', e1, e2⟩ := q3 rfl
   rw [h1] at e1
   cases e1
   rw [e2]
   have cell : ∀ j x, xs[j]? = some x → ∃ v, vs[j]? = some v ∧ Ap σ v x := fun j x hx => by
    obtain ⟨v, v1, v2⟩ := h4.get (j := j) (b := .st x) (by rw [List.getElem?_map, hx]; rfl)
    exact ⟨v, by simpa using v1, Cj v2⟩
   refine .one (.eptr (fun j => (vs[j]?).getD undef) (fun j x hx => ?_) (fun j x hx => ?_) (fun _ _ => ?_))
   ·obtain ⟨v, v1, v2⟩ := cell j x hx
    have hj := (List.getElem?_eq_some_iff.1 hx).1
    rw [show (0 * (AJ.box ty (xs.map AC.st)).wid + 0 + j) = j by omega, Hl hj, cell_of_row w g _ _ _ _ h3, v1]
    rfl
   ·obtain ⟨v, v1, v2⟩ := cell j x hx
    rw [v1]
    exact v2.mono hkeep
   ·rw [Ey hl, Dv h3]
  ·exact R'.env i hi


section
variable {C : Ctx} {s : AS}
theorem AW.ice (t : Nat) {id : Nat} {e : TypeId} {cs : List AC} {xs : List SV} (hS : s.S id = some (.box e cs)) (hc : stCs s.S cs = some xs) (ht : s.env t = .one (.ptr id 1 0 0)) (hn : t < C.n) : AW C s ⟨AF s.env t (.one (.eptr xs)), AF s.S id (some (.dead 1 0))⟩ := fun a w ⟨σ, ι, R⟩ => by
 have hb := R.blk _ _ hS
 cases hb with
 | @box _ _ g vs h1 h2 h3 h4 h5 =>
  have hsc := R.stCs h4 hc
  have hkeep := Dy (σ := σ) (w' := w) (g := g) (k := vs.size) (fun p x ep hx => by rw [h5 _ ep] at hx; cases hx)
  obtain ⟨hu, R'⟩ := R.turn (w' := w) hS (.dead 1 0) (ι id) (σ' := DK σ w g vs.size) hkeep (fun p hp _ => Dn (fun e => hp (by rw [e]; exact h1))) (DA R.fit) (Nat.le_refl _) (fun _ => ⟨rfl, rfl⟩) ⟨rfl, rfl, rfl⟩ (Nat.le_refl _) (fun _ _ _ => rfl) (fun g h => .inl h) (fun hu => .dead fun g' hg' => ⟨_, (by rw [h1] at hg'; cases hg'; exact h3), rfl⟩)
  refine ⟨_, _, { R' with env := fun i hi => ?_ }⟩
  show AN _ _ _ _ (AF s.env t _ i)
  unfold AF
  split
  ·rename_i hit
   subst hit
   have := R.env i hi
   rw [ht] at this
   have hv := AP this
   generalize a.tmps.getD i undef = v at hv
   cases hv with
   | ptr k1 k2 k3 k4 =>
    rw [hS] at k1
    cases k1
    obtain ⟨g', q1, q2⟩ := k4 rfl
    rw [h1] at q1
    cases q1
    rw [q2]
    have key : ∀ j x, xs[j]? = some x → ∃ v, vs[j]? = some v ∧ Ap σ v x := fun j x hx => by
     obtain ⟨v, v1, v2⟩ := hsc.get hx
     exact ⟨v, by simpa using v1, v2⟩
    have hlen : vs.size = xs.length := by simpa using hsc.len
    refine .one (.eptr (o := 0) (fun j => (vs[j]?).getD undef) (fun j x hx => ?_) (fun j x hx => ?_) (fun _ q => ?_))
    ·obtain ⟨v, v1, v2⟩ := key j x hx
     have hj : j < vs.size := (Array.getElem?_eq_some_iff.1 v1).1
     rw [Nat.zero_add, Hl hj, cell_of_row w g _ _ _ _ h3]
     simp [v1]
    ·obtain ⟨v, v1, v2⟩ := key j x hx
     rw [v1]
     exact v2.mono hkeep
    ·rw [Ey (by omega), Dv h3]
  ·exact R'.env i hi
theorem AW.calm {id : Nat} {e : TypeId} {cs : List AC} {xs : List SV} (hS : s.S id = some (.box e cs)) (hc : stCs s.S cs = some xs) : AW C s (s.set id (.box e (xs.map .st))) := fun a w ⟨σ, ι, R⟩ => by
 have hb := R.blk _ _ hS
 cases hb with
 | @box _ _ g vs h1 h2 h3 h4 h5 =>
  have hsc := R.stCs h4 hc
  obtain ⟨hu, R'⟩ := R.turn (w' := w) hS (.box e (xs.map .st)) (ι id) (σ' := σ) (fun _ _ h => h) (fun _ _ _ => rfl) R.fit (Nat.le_refl _) (fun _ => ⟨rfl, rfl⟩) ⟨rfl, rfl, rfl⟩ (Nat.le_refl _) (fun _ _ _ => rfl) (fun g h => .inl h) (fun hu => .box h1 h2 h3 ((hsc.mono fun _ _ x => Af.st x).map_right) h5)
  exact ⟨_, _, R'⟩
end
abbrev Cc (t : Tm) : List SV := [.str t.name, .list (t.args.map Ae)]
def svW : List (Tm × Nat) → SV
 | [] => .lit (.func (.func 52) #[] #[])
 | (t, i) :: V => .clo 106 [Cc t, [.int .i64 i], [svW V]]
def acW : List (Tm × Nat) → AC
 | [] => .fn 52 []
 | (t, i) :: V => .fn 106 [.eptr (Cc t), .eptr [.int .i64 i], .eptr [svW V]]
theorem Q0 (S : AA) : ∀ V, stC S (acW V) = some (svW V)
 | [] => rfl
 | (t, i) :: V => rfl
def KC : List (Tm × Nat) → List AC
 | [] => []
 | (t, i) :: V => [.eptr (Cc t), .eptr [.int .i64 i], .eptr [svW V]]
def fnW : List (Tm × Nat) → Nat
 | [] => 52
 | (t, i) :: V => 106
theorem IS : ∀ V, (AV.one (.st (svW V))).fnOf = some (fnW V, KC V)
 | [] => rfl
 | (t, i) :: V => rfl
theorem G1 : ∀ V, Bv Tryz.prog (fnW V) = true
 | [] => by kernel_rfl
 | (t, i) :: V => by kernel_rfl
theorem Fe (ρ : Nat → Nat) : ∀ V, AV.rens ρ ((KC V).map .one) = (KC V).map .one
 | [] => rfl
 | (t, i) :: V => rfl
theorem NE (V : List (Tm × Nat)) (x : Tm) : outVs noS (aTm x :: (KC V).map .one) = some (aTm x :: (KC V).map .one) := by
 cases V <;> rfl
theorem RL (x : Tm) : AT Tryz.prog 52 [aTm x] (aTm x) := by
 refine GE.ac fun C hC => ?_
 unfold DS
 repeat' with_reducible first | refine W ?_ | refine Z0 ?_ | ((first | refine Wo fun K hK => ?_ | refine Wp ?_ | refine Wq ?_ | refine Wr ?_); (try simp only [go_sem, fN, seval, eT, iR, dT, dF, nL]); (repeat refine Ai ?_); (try (refine hK _ ?_; clear hK K)); try refine iC ?_)
 simp only [go_sem, fN, seval, AQ, AS.result, AD, AE, AL]
theorem PV : ∀ (V : List (Tm × Nat)) (x : Tm), Jd V → AT Tryz.prog (fnW V) (aTm x :: (KC V).map .one) (aTm (BS V x))
 | [], x, _ => RL x
 | (t, i) :: V, x, hV => by
  obtain ⟨h1, h2, h3⟩ := hV
  have ih := PV V (.mk t.name (t.args.set i x)) h3
  show AT Tryz.prog 106 [aTm x, .one (.eptr (Cc t)), .one (.eptr [.int .i64 i]), .one (.eptr [svW V])] (aTm (BS V (.mk t.name (t.args.set i x))))
  refine FR.ac fun C hC => ?_
  unfold DB
  repeat' with_reducible first | refine W ?_ | refine Z0 ?_ | ((first | refine Wo fun K hK => ?_ | refine Wp ?_ | refine Wq ?_ | refine Wr ?_); (try simp only [go_sem, fN, seval, eT, iR, dT, dF, nL]); (repeat refine Ai ?_); (try (refine hK _ ?_; clear hK K)); try refine iC ?_)
  refine ⟨_, _, _, _, QU t.args (by omega) h2, by simp [AF, noS], ?_⟩
  refine Wr ?_
  simp only [go_sem, fN, seval, eT, iR]
  refine hK _ ?_
  clear hK K
  refine Wb ?_
  refine IWP.mid (fun x' => x'.env 3 = .one (.eptr [svW V]) ∧ x'.env 5 = .one (.ptr 5 1 0 0) ∧ x'.env 6 = .one (.ptr 6 1 0 0) ∧ x'.S 5 = some (.box 25 [.st (.str ⟨#[]⟩), .full []]) ∧ x'.S 6 = some (.box 25 [.st (.str t.name), .row 11 t.args.length]) ∧ x'.S 11 = some (.mrow 25 2 ((t.args.set i x).map Ae))) ?_ ?_
  ·have hlt : (i : Int) < t.args.length := by omega
   obtain ⟨a, ha⟩ := Ac h1
   repeat' with_reducible first | refine W ?_ | refine Z0 ?_ | ((first | refine Wo fun K hK => ?_ | refine Wp ?_ | refine Wq ?_ | refine Wr ?_); (try simp only [go_sem, fN, seval, eT, iR, hlt, ha, dT, dF, nL]); (repeat refine Ai ?_); (try (refine hK _ ?_; clear hK K)); try refine iC ?_)
   refine ⟨rfl, ?_⟩
   simp only [go_sem, fN, seval, eT, iR, hlt, ha]
   rw [List.map_set, Ba]
  rintro ⟨env, S⟩ ⟨e3, e5, e6, s5, s6, s11⟩
  simp only at e3 e5 e6 s5 s6 s11
  have hl1 : (t.args.set i x).length = t.args.length := by simp
  refine IWP.ghost (AW.share (id := 11) s11) ?_
  refine IWP.ghost (AW.calm (id := 6) (e := 25) (cs := [.st (.str t.name), .row 11 t.args.length]) (xs := Cc (.mk t.name (t.args.set i x))) (by simp only [go_sem, fN, seval, eT, iR, s6]) (by simp only [go_sem, fN, seval, eT, iR, hl1, stCs, stC, Tm.name_mk, Tm.args_mk, Cc])) ?_
  repeat' with_reducible first | refine W ?_ | refine Z0 ?_ | ((first | refine Wo fun K hK => ?_ | refine Wp ?_ | refine Wq ?_ | refine Wr ?_); (try simp only [go_sem, fN, seval, eT, iR, e3, e5, e6, s5, s6, IS, dT, dF, nL]); (repeat refine Ai ?_); (try (refine hK _ ?_; clear hK K)); try refine iC ?_)
  rw [Fe]
  refine ⟨G1 V, _, _, ih.toS (NE V _), ?_⟩
  repeat' with_reducible first | refine W ?_ | refine Z0 ?_ | ((first | refine Wo fun K hK => ?_ | refine Wp ?_ | refine Wq ?_ | refine Wr ?_); (try simp only [go_sem, fN, seval, eT, iR, e3, e5, e6, s5, s6, dT, dF, nL]); (repeat refine Ai ?_); (try (refine hK _ ?_; clear hK K)); try refine iC ?_)
  simp only [go_sem, fN, seval, AQ, AS.result, AD, AE, AL, e5, s5]
theorem Ro (t : Tm) : AT Tryz.prog 51 [aTm t, .one (acW [])] (.one (.fn 78 [.eptr (Cc t), .eptr [svW []]])) := by
 refine HW.ac fun C hC => ?_
 unfold EB
 refine IWP.mid (fun x => x.env 2 = .one (.ptr 2 1 0 0) ∧ x.env 3 = .one (.ptr 3 1 0 0) ∧ (∃ e, x.S 2 = some (.box e [.st (.str t.name), .st (.list (t.args.map Ae))])) ∧ ∃ e, x.S 3 = some (.box e [acW []])) ?_ ?_
 ·repeat' with_reducible first | refine W ?_ | refine Z0 ?_ | ((first | refine Wo fun K hK => ?_ | refine Wp ?_ | refine Wq ?_ | refine Wr ?_); (try simp only [go_sem, fN, seval, eT, iR, dT, dF, nL]); (repeat refine Ai ?_); (try (refine hK _ ?_; clear hK K)); try refine iC ?_)
  exact ⟨rfl, rfl, rfl, ⟨_, rfl⟩, ⟨_, rfl⟩⟩
 rintro ⟨env, S⟩ ⟨e2, e3, ⟨ty, s2⟩, ty', s3⟩
 simp only at e2 e3 s2 s3
 refine IWP.ghost (AW.ice 2 (id := 2) s2 (xs := Cc t) rfl e2 (by omega)) ?_
 refine IWP.ghost (AW.ice 3 (id := 3) (e := ty') (cs := [acW []]) (xs := [svW []]) (by simp only [go_sem, fN, seval, eT, iR, s3]) rfl (by simp only [go_sem, fN, seval, eT, iR, e3]) (by omega)) ?_
 repeat' with_reducible first | refine W ?_ | refine Z0 ?_ | ((first | refine Wo fun K hK => ?_ | refine Wp ?_ | refine Wq ?_ | refine Wr ?_); (try simp only [go_sem, fN, seval, eT, iR, AS.caps, dT, dF, nL]); (repeat refine Ai ?_); (try (refine hK _ ?_; clear hK K)); try refine iC ?_)
 simp only [go_sem, fN, seval, AQ, AS.result, AD, AE, AL]
 rfl
theorem IG {s : AS} {ds : List Nat} (hds : ∀ d ∈ ds, d < 1000) {T : AA} (hT : Aj T) (h : ∀ i, 1000 ≤ i → s.S i = T i) : ∀ i, 1000 ≤ i → (s.drop ds).S i = T i := fun i hi => by
 show Aa ds s.S i = T i
 unfold Aa
 rw [CR hds hi, h i hi]
 cases hb : T i with
 | none => rfl
 | some b => simp [AJ.purge_high hds (hT i b hb).2]
def Qh (q : List (Tm × Nat) × Tm) : List AV := [aTm q.2, .one (.st (svW q.1))]
theorem RF {y : Nat} (hy : 1000 ≤ y) {all : List (List (Tm × Nat) × Tm)} {Inv : List (List (Tm × Nat) × Tm) → AA → Prop} {Jx : AA → Prop}
  (hround : ∀ pre v, (pre ++ [v]) <+: all → ∀ T, Inv pre T → Fo Tryz.prog (.one (.yld y)) (Qh v) T fun r T' => (r = .one (.st (.bool true)) ∧ Inv (pre ++ [v]) T') ∨ (r = .one (.st (.bool false)) ∧ Jx T')) :
  ∀ (t : Tm) (V : List (Tm × Nat)) (c : AC) (pre : List (List (Tm × Nat) × Tm)) (T : AA), (∀ S, stC S c = some (svW V)) → c.stay = true ∨ c = acW V → t.size ≤ 1000000 → (pre ++ t.visits V) <+: all → Inv pre T →
   Eu Tryz.prog 79 [aTm t, .one c, .one (.yld y)] T fun r T' => (r = Ah true ∧ Inv (pre ++ t.visits V) T') ∨ (r = Ah false ∧ Jx T') := by
 intro t
 induction h : SizeOf.sizeOf t using Nat.strongRecOn generalizing t with
 | _ N ih =>
 subst h
 intro V c pre T0 hc hc2 hz hpre hI
 have hs := Tm.size_eq t
 have hln := Tm.length_le t.args
 refine GX.acR fun hclean C hC htop => ?_
 unfold De
 have n3 := AZ hclean (show 3 < 1000 by omega)
 have n4 := AZ hclean (show 4 < 1000 by omega)
 have n7 := AZ hclean (show 7 < 1000 by omega)
 refine IWP.mid (fun x => x.env 2 = .one (.yld y) ∧ x.env 3 = .one (.ptr 3 1 0 0) ∧ x.env 4 = .one (.ptr 4 1 0 0) ∧ (∃ e, x.S 3 = some (.box e [.st (.str t.name), .st (.list (t.args.map Ae))])) ∧ (∃ e, x.S 4 = some (.box e [c])) ∧ x.S 7 = none ∧ ∀ i, 1000 ≤ i → x.S i = T0 i) ?_ ?_
 ·repeat' with_reducible first | refine W ?_ | refine Z0 ?_ | ((first | refine Wo fun K hK => ?_ | refine Wp ?_ | refine Wq ?_ | refine Wr ?_); (try simp only [go_sem, fN, seval, eT, iR, AS.startS, n3, n4, dT, dF, nL]); (repeat refine Ai ?_); (try (refine hK _ ?_; clear hK K)); try refine iC ?_)
  refine ⟨rfl, rfl, rfl, rfl, ⟨_, rfl⟩, ⟨_, rfl⟩, ?_, fun i hi => ?_⟩
  ·simp only [go_sem, fN, seval, eT, iR, n7]
  ·show AF (AF _ 3 _) 4 _ i = _
   rw [AG _ (by omega), AG _ (by omega)]
 rintro ⟨env, S⟩ ⟨e2, e3, e4, ⟨ty, s3⟩, ⟨ty', s4⟩, s7, hST⟩
 simp only at e2 e3 e4 s3 s4 s7 hST
 refine IWP.ghost (AW.ice 3 (id := 3) s3 (xs := Cc t) rfl e3 (by omega)) ?_
 refine IWP.ghost (AW.ice 4 (id := 4) (e := ty') (cs := [c]) (xs := [svW V]) (by simp only [go_sem, fN, seval, eT, iR, s4]) (by simp [stCs, hc]) (by simp only [go_sem, fN, seval, eT, iR, e4]) (by omega)) ?_
 have hy' := hround pre (V, t) (by
  rw [Tm.visits_eq] at hpre
  exact List.IsPrefix.trans ⟨Tm.visitsL V t 0 t.args, by simp⟩ hpre) T0 hI
 unfold Qh at hy'
 repeat' with_reducible first | refine W ?_ | refine Z0 ?_ | ((first | refine Wo fun K hK => ?_ | refine Wp ?_ | refine Wq ?_ | refine Wr ?_); (try simp only [go_sem, fN, seval, eT, iR, e2, dT, dF, nL]); (repeat refine Ai ?_); (try (refine hK _ ?_; clear hK K)); try refine iC ?_)
 refine H5.mk T0 _ hclean (fun i hi => by
   show AF (AF S 3 _) 4 _ i = _
   rw [AG _ (by omega), AG _ (by omega)]
   exact hST i hi) (by
   show ((AC.yld y).high && true) = true
   rw [GT hy]
   rfl) hy' ?_
 have hj : ∀ {S S' : AA} (i : Nat), 1000 ≤ i → DL S S' i = S' i := fun i hi => A6 hi
 rintro r S' hS' (⟨rfl, hI'⟩ | ⟨rfl, hJ⟩)
 case inr =>
  repeat' with_reducible first | refine W ?_ | refine Z0 ?_ | ((first | refine Wo fun K hK => ?_ | refine Wp ?_ | refine Wq ?_ | refine Wr ?_); (try simp only [go_sem, fN, seval, eT, iR, e2, dT, dF, nL]); (repeat refine Ai ?_); (try (refine hK _ ?_; clear hK K)); try refine iC ?_)
  exact ⟨Ah false, S', .inr ⟨rfl, hJ⟩, B3 (Ah false) hS' trivial rfl rfl fun i hi => A6 hi⟩
 repeat' with_reducible first | refine W ?_ | refine Z0 ?_ | ((first | refine Wo fun K hK => ?_ | refine Wp ?_ | refine Wq ?_ | refine Wr ?_); (try simp only [go_sem, fN, seval, eT, iR, e2, dT, dF, nL]); (repeat refine Ai ?_); (try (refine hK _ ?_; clear hK K)); try refine iC ?_)
 refine IWP.loopD [7] (fun m s => ∃ k T pre', k ≤ t.args.length ∧ m = t.args.length - k ∧ pre' ++ Tm.visitsL V t k (t.args.drop k) = pre ++ t.visits V ∧ s.env 2 = .one (.yld y) ∧ s.env 3 = .one (.eptr (Cc t)) ∧ s.env 4 = .one (.eptr [svW V]) ∧ s.env 16 = Ab t.args.length ∧ s.env 17 = Ab k ∧ s.S 7 = none ∧ (∀ i, 1000 ≤ i → s.S i = T i) ∧ Aj T ∧ Inv pre' T) t.args.length ⟨0, S', pre ++ [(V, t)], Nat.zero_le _, rfl, ?_, ?_, ?_, ?_, ?_, ?_, ?_, fun i hi => A6 hi, hS', hI'⟩ ?_
 ·rw [Tm.visits_eq]
  simp
 ·simp only [go_sem, fN, seval, eT, iR, e2]
 ·simp only [go_sem, fN, seval, eT, iR]
 ·simp only [go_sem, fN, seval, eT, iR]
 ·simp only [go_sem, fN, seval, eT, iR]
 ·simp only [go_sem, fN, seval, eT, iR]
 ·show DL (AF (AF S 3 (some (.dead 1 0))) 4 (some (.dead 1 0))) S' 7 = none
  rw [Cb (by decide), AG _ (by decide), AG _ (by decide)]
  exact s7
 rintro m ⟨env, S⟩ ⟨k, T, pre', hk, rfl, hall, e2, e3, e4, e16, e17, s7, hST, hT, hI⟩
 simp only at e2 e3 e4 e16 e17 s7 hST
 by_cases hlt : k < t.args.length
 case neg =>
  rw [List.drop_of_length_le (by omega)] at hall
  simp only [Tm.visitsL, List.append_nil] at hall
  subst hall
  have hlt' : ¬ (k : Int) < t.args.length := by omega
  repeat' with_reducible first | refine W ?_ | refine Z0 ?_ | ((first | refine Wo fun K hK => ?_ | refine Wp ?_ | refine Wq ?_ | refine Wr ?_); (try simp only [go_sem, fN, seval, eT, iR, e2, e3, e4, e16, e17, hlt', dT, dF, nL]); (repeat refine Ai ?_); (try (refine hK _ ?_; clear hK K)); try refine iC ?_)
  exact ⟨Ah true, T, .inl ⟨rfl, hI⟩, B3 (Ah true) hT trivial rfl rfl hST⟩
 obtain ⟨a, ha⟩ := Ac hlt
 have hmem := AO ha
 have hlt' : (k : Int) < t.args.length := by omega
 rw [Kj ha, ← List.append_assoc] at hall
 repeat' with_reducible first | refine W ?_ | refine Z0 ?_ | ((first | refine Wo fun K hK => ?_ | refine Wq ?_ | refine Wr ?_); (try simp only [go_sem, fN, seval, eT, iR, e16, e17, hlt']); (repeat refine Ai ?_); (try (refine hK _ ?_; clear hK K)))
 with_reducible refine Wp ?_
 simp only [go_sem, fN, seval, true_implies, false_implies, implies_true, dT, dF, nL, hlt']
 (try with_reducible refine iC ?_)
 repeat' (with_reducible first | refine Wb ?_ | refine Wc ?_ | refine Wd ?_ | refine We ?_ | refine Wg ?_ | refine Wh ?_ | refine Wi ?_ | refine Wj ?_ | refine Wk (by decide) ?_ | refine Wl ?_ | refine Wm ?_ | refine Wn ?_)
 refine Wb ?_
 refine Wa ?_
 refine Wc ?_
 refine IWP.mid (fun x => x.env 2 = .one (.yld y) ∧ x.env 3 = .one (.eptr (Cc t)) ∧ x.env 4 = .one (.eptr [svW V]) ∧ x.env 16 = Ab t.args.length ∧ x.env 17 = Ab k ∧ x.env 7 = .one (.ptr 7 1 0 0) ∧ (∃ e, x.S 7 = some (.box e [.st (.int .i64 k)])) ∧ (∀ i, 1000 ≤ i → x.S i = T i)) ?_ ?_
 ·repeat' with_reducible first | refine W ?_ | refine Z0 ?_ | ((first | refine Wo fun K hK => ?_ | refine Wp ?_ | refine Wq ?_ | refine Wr ?_); (try simp only [go_sem, fN, seval, eT, iR, e2, e3, e4, e16, e17, s7, dT, dF, nL]); (repeat refine Ai ?_); (try (refine hK _ ?_; clear hK K)); try refine iC ?_)
  refine ⟨rfl, e2, e3, e4, e16, e17, rfl, ⟨_, rfl⟩, fun i hi => ?_⟩
  show AF (AF S 7 _) 7 _ i = _
  rw [AG _ (by omega), AG _ (by omega)]
  exact hST i hi
 clear e2 e3 e4 e16 e17 s7 hST
 rintro ⟨env, S⟩ ⟨e2, e3, e4, e16, e17, e7, ⟨ty7, s7⟩, hST⟩
 simp only at e2 e3 e4 e16 e17 e7 s7 hST
 refine IWP.ghost (AW.ice 7 (id := 7) s7 (xs := [.int .i64 k]) rfl e7 (by omega)) ?_
 have hst : (AF S 7 (some (.dead 1 0)) : AA) 7 = some (.dead 1 0) := rfl
 have hcon := ih _ (Tm.lt_of_arg hmem) a rfl ((t, k) :: V) (acW ((t, k) :: V)) pre' T (fun S => Q0 S _) (.inr rfl) (by have := Tm.size_mem hmem; omega) (List.IsPrefix.trans ⟨Tm.visitsL V t (k + 1) (List.drop (k + 1) t.args), hall⟩ hpre) hI
 repeat' with_reducible first | refine W ?_ | refine Z0 ?_ | ((first | refine Wo fun K hK => ?_ | refine Wp ?_ | refine Wq ?_ | refine Wr ?_); (try simp only [go_sem, fN, seval, eT, iR, e2, e3, e4, e16, e17, AS.caps, ha, dT, dF, nL]); (repeat refine Ai ?_); (try (refine hK _ ?_; clear hK K)); try refine iC ?_)
 refine H5.mk T _ hT (fun i hi => by
  rw [AG _ (by omega)]
  exact hST i hi) (by
   show (true && (true && ((AC.yld y).high && true))) = true
   rw [GT hy]
   rfl) hcon ?_
 rintro r S' hS' (⟨rfl, hI'⟩ | ⟨rfl, hJ⟩)
 case inr =>
  repeat' with_reducible first | refine W ?_ | refine Z0 ?_ | ((first | refine Wo fun K hK => ?_ | refine Wp ?_ | refine Wq ?_ | refine Wr ?_); (try simp only [go_sem, fN, seval, eT, iR, e2, e3, e4, e16, e17, dT, dF, nL]); (repeat refine Ai ?_); (try (refine hK _ ?_; clear hK K)); try refine iC ?_)
  exact ⟨Ah false, S', .inr ⟨rfl, hJ⟩, B3 (Ah false) hS' trivial rfl rfl fun i hi => A6 hi⟩
 repeat' with_reducible first | refine W ?_ | refine Z0 ?_ | ((first | refine Wo fun K hK => ?_ | refine Wp ?_ | refine Wq ?_ | refine Wr ?_); (try simp only [go_sem, fN, seval, eT, iR, e2, e3, e4, e16, e17, dT, dF, nL]); (repeat refine Ai ?_); (try (refine hK _ ?_; clear hK K)); try refine iC ?_)
 refine ⟨t.args.length - (k + 1), by omega, k + 1, S', _, by omega, rfl, hall, ?_, ?_, ?_, ?_, ?_, rfl, IG (by decide) hS' (fun i hi => A6 hi), hS', hI'⟩
 ·have hy7 : (y == 7) = false := by
   rw [beq_eq_false_iff_ne]
   omega
  simp only [go_sem, fN, seval, AS.drop, Aa, AC.clears, AC.clear, AC.highs, AC.high, Bool.not_false, Bool.true_and, Bool.and_self, AV.purge, AV.purges, AC.purge, AJ.purge, List.contains_cons, List.contains_nil, Nat.reduceBEq, Bool.or_self, Bool.or_false, Bool.false_or, Bool.or_true, eT, iR, e2, hy7]
 ·simp only [go_sem, fN, seval, AS.drop, Aa, AC.clears, AC.clear, AC.highs, AC.high, Bool.not_false, Bool.true_and, Bool.and_self, AV.purge, AV.purges, AC.purge, AJ.purge, List.contains_cons, List.contains_nil, Nat.reduceBEq, Bool.or_self, Bool.or_false, Bool.false_or, Bool.or_true, eT, iR, e3]
 ·simp only [go_sem, fN, seval, AS.drop, Aa, AC.clears, AC.clear, AC.highs, AC.high, Bool.not_false, Bool.true_and, Bool.and_self, AV.purge, AV.purges, AC.purge, AJ.purge, List.contains_cons, List.contains_nil, Nat.reduceBEq, Bool.or_self, Bool.or_false, Bool.false_or, Bool.or_true, eT, iR, e4]
 ·simp only [go_sem, fN, seval, AS.drop, Aa, AC.clears, AC.clear, AC.highs, AC.high, Bool.not_false, Bool.true_and, Bool.and_self, AV.purge, AV.purges, AC.purge, AJ.purge, List.contains_cons, List.contains_nil, Nat.reduceBEq, Bool.or_self, Bool.or_false, Bool.false_or, Bool.or_true, eT, iR, e16]
 ·simp only [go_sem, fN, seval, AS.drop, Aa, AC.clears, AC.clear, AC.highs, AC.high, Bool.not_false, Bool.true_and, Bool.and_self, AV.purge, AV.purges, AC.purge, AJ.purge, List.contains_cons, List.contains_nil, Nat.reduceBEq, Bool.or_self, Bool.or_false, Bool.false_or, Bool.or_true, eT, iR, e17]
  congr 3
theorem Mo (t : Tm) (hz : t.size ≤ 1000000) : RP Tryz.prog 78 [.one (.eptr (Cc t)), .one (.eptr [svW []])] (fun _ => True) Qh (t.visits []) := by
 intro y Inv Jx T0 hy _ hround h0
 refine GK.acR fun hclean C hC htop => ?_
 unfold Da
 have hcon := RF hy hround t [] (.st (svW [])) [] T0 (fun _ => rfl) (.inl rfl) hz (List.prefix_refl _) h0
 repeat' with_reducible first | refine W ?_ | refine Z0 ?_ | ((first | refine Wo fun K hK => ?_ | refine Wp ?_ | refine Wq ?_ | refine Wr ?_); (try simp only [go_sem, fN, seval, eT, iR, AS.startS, dT, dF, nL]); (repeat refine Ai ?_); (try (refine hK _ ?_; clear hK K)); try refine iC ?_)
 refine H5.mk T0 _ hclean (fun i hi => rfl) (by
   show (true && (true && ((AC.yld y).high && true))) = true
   rw [GT hy]
   rfl) hcon ?_
 rintro r S' hS' (⟨rfl, hI'⟩ | ⟨rfl, hJ⟩)
 ·repeat' with_reducible first | refine W ?_ | refine Z0 ?_ | ((first | refine Wo fun K hK => ?_ | refine Wp ?_ | refine Wq ?_ | refine Wr ?_); (try simp only [go_sem, fN, seval, eT, iR, dT, dF, nL]); (repeat refine Ai ?_); (try (refine hK _ ?_; clear hK K)); try refine iC ?_)
  exact ⟨.tup [], S', .inl hI', B3 (.tup []) hS' trivial rfl rfl fun i hi => A6 hi⟩
 ·repeat' with_reducible first | refine W ?_ | refine Z0 ?_ | ((first | refine Wo fun K hK => ?_ | refine Wp ?_ | refine Wq ?_ | refine Wr ?_); (try simp only [go_sem, fN, seval, eT, iR, dT, dF, nL]); (repeat refine Ai ?_); (try (refine hK _ ?_; clear hK K)); try refine iC ?_)
  exact ⟨.tup [], S', .inr hJ, B3 (.tup []) hS' trivial rfl rfl fun i hi => A6 hi⟩

abbrev P0 (t : Tm) : AJ := .box 25 [.st (.str t.name), .st (.list (t.args.map Ae))]
theorem OA {R : List Pr} {t : Tm} (h : GD R t = 0) : Ce R ∧ t.chk = 0 ∧ t.size ≤ 200 := by
 unfold GD at h
 by_cases h0 : BH R = 0
 ·rw [if_pos h0] at h
  exact ⟨JZ h0, Tm.may_chk h⟩
 ·rw [if_neg h0] at h
  exact absurd h h0

end Go.Proofs.YtgcddcaachpbnaaGreat
