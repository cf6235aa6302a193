/-
  Part 9 of the texts: BTerm; BVars; PPair; PGen; PGen2; PCanon; PUnify; PRobin; PMatch; PLam; PInfer; Shelf; IrBoth; BBoth; IrGen; BItoa; IrLam; BLam. Conditions: none.
-/
import Derived.Test.YtehnjhkndbcmgaaDoorTSelf8
import Derived.Lib.ItoaNum
import Derived.Shelf.Strconv.Itoa3
import Derived.Shelf.SlSortCmp.WholeK
import Derived.Shelf.SlSortCmp.NoneTotal
import Derived.Test.YtehnjhkndbcmgaaDoorProg
import Derived.Lib.AppendIntMem
import Derived.Lib.ItoaLen
import Derived.Lib.ItoaMem
namespace Go.Proofs.YtehnjhkndbcmgaaDoor
open Go Go.RowKit
set_option linter.unusedVariables false
set_option linter.unusedSimpArgs false
set_option maxHeartbeats 400000
theorem byteN_eq (s : ByteArray) (k : Nat) : byteN s k = byteAt s k := rfl
theorem size_ne {s : ByteArray} (h : ¬ s.size = 0) : ¬ s = ⟨#[]⟩ := fun e => h (by rw [e]; rfl)
theorem size_eq0 {s : ByteArray} (h : s.size = 0) : s = ⟨#[]⟩ := by
  have := ByteArray.size_eq_zero_iff.1 h
  exact this
theorem variable_a (s : ByteArray) : ACalls Tryd.prog 28 [aStr s] (aBool (isVar s)) := by
  by_cases h0 : s.size = 0
  · have := size_eq0 h0
    subst this
    refine ac_term_Variable (Nat.le_of_ble_eq_true rfl) fun C hC => ?_
    unfold ir_term_Variable
    repeat' (first | (with_reducible first | refine W ?_ | refine Wk (by decide) ?_) | ((with_reducible first | refine Wo (fun K hK => ?_) | refine Wq ?_ | refine Wr ?_); (try simp only [go_sem, fN, ↓gI, ↓pI, seval, eT, iR]); (repeat with_reducible refine And.intro (by first | omega | (with_reducible exact lens) | (simp [maxLen_eq] <;> omega)) ?_); (try (with_reducible refine hK _ ?_; clear hK K))))
    simp only [go_sem, fN, ↓gI, ↓pI, seval, FinQ, AS.result, resAll, resOne, tupV]
    rfl
  · have h1 := size_ne h0
    have h2 : 0 < s.size := by omega
    refine ac_term_Variable (Nat.le_of_ble_eq_true rfl) fun C hC => ?_
    unfold ir_term_Variable
    by_cases h3 : 65 ≤ byteAt s 0 <;> by_cases h4 : byteAt s 0 ≤ 90
    all_goals
      repeat' (first | (with_reducible first | refine W ?_ | refine Wk (by decide) ?_) | ((with_reducible first | refine Wo (fun K hK => ?_) | refine Wq ?_ | refine Wr ?_); (try simp only [go_sem, fN, ↓gI, ↓pI, seval, eT, iR, h1, h2, byteN_eq, h3, h4]); (repeat with_reducible refine And.intro (by first | omega | (with_reducible exact lens) | (simp [maxLen_eq] <;> omega)) ?_); (try (with_reducible refine hK _ ?_; clear hK K))))
      simp only [go_sem, fN, ↓gI, ↓pI, seval, FinQ, AS.result, resAll, resOne, tupV, isVar, h3, h4, h2]
      try simp
mutual
def Tm.beq : Tm → Tm → Bool
  | .mk n xs, .mk m ys => decide (n = m) && Tm.beqL xs ys
def Tm.beqL : List Tm → List Tm → Bool
  | [], [] => true
  | x :: xs, y :: ys => x.beq y && Tm.beqL xs ys
  | _, _ => false
end
def Tm.nil : Tm := .mk ⟨#[]⟩ []
end Go.Proofs.YtehnjhkndbcmgaaDoor

namespace Go.Proofs.YtehnjhkndbcmgaaDoor
open Go Go.RowKit
set_option linter.unusedVariables false
set_option linter.unusedSimpArgs false
set_option maxHeartbeats 400000
end Go.Proofs.YtehnjhkndbcmgaaDoor

namespace Go.Proofs.YtehnjhkndbcmgaaDoor
open Go Go.RowKit
set_option linter.unusedVariables false
abbrev Pr := Tm × Tm
def encP (p : Pr) : List SV := [.str p.1.name, .list (p.1.args.map encT), .str p.2.name, .list (p.2.args.map encT)]
abbrev aPrs (l : List Pr) : AV := .one (.st (.list (l.map encP)))
instance : Lens encP 4 := ⟨fun _ => rfl⟩
end Go.Proofs.YtehnjhkndbcmgaaDoor

namespace Go.Proofs.YtehnjhkndbcmgaaDoor
open Go Go.RowKit
set_option linter.unusedVariables false
def decS (n : Nat) : ByteArray := ⟨(Lib.decDigits n).toArray⟩
theorem decS_small {n : Nat} (h : n < 10) : decS n = ⟨#[UInt8.ofNat (48 + n)]⟩ := by unfold decS; rw [Lib.decDigits, dif_pos h]
theorem nDig_le {u k : Nat} (h : u < 10 ^ k) (hk : 1 ≤ k) : Lib.nDigits u ≤ k := by
  induction k generalizing u with
  | zero => omega
  | succ k ih =>
    by_cases h1 : u < 10
    · rw [Lib.nDigits_small h1]; omega
    · rw [Lib.nDigits_big h1]
      have : 1 ≤ k := by
        rcases Nat.eq_zero_or_pos k with h0 | h0
        · subst h0; rw [Nat.zero_add, Nat.pow_one] at h; omega
        · exact h0
      have := ih (u := u / 10) (by rw [Nat.pow_succ] at h; omega) this
      omega
theorem decS_size (n : Nat) : (decS n).size = Lib.nDigits n := by
  show (Lib.decDigits n).toArray.size = _
  rw [List.size_toArray, Lib.decDigits_length]
theorem decS_size_le {n : Nat} (h : n < 1000000) : (decS n).size ≤ 6 := by rw [decS_size]; exact nDig_le (k := 6) (by omega) (by omega)
theorem digits_letters (u : Nat) : ∀ d ∈ Lib.decDigits u, 48 ≤ d.toNat ∧ d.toNat ≤ 57 := by
  induction u using Nat.strongRecOn with
  | _ u ih =>
    by_cases h : u < 10
    · rw [Lib.decDigits, dif_pos h]
      intro d hd
      rw [List.mem_singleton] at hd
      subst hd
      rw [UInt8.toNat_ofNat_of_lt' (by show _ < 256; omega)]
      omega
    · rw [Lib.decDigits, dif_neg h]
      intro d hd
      rcases List.mem_append.1 hd with hd | hd
      · exact ih _ (by omega) d hd
      · rw [List.mem_singleton] at hd
        subst hd
        rw [UInt8.toNat_ofNat_of_lt' (by show _ < 256; omega)]
        omega
def headEq (n : ByteArray) (xs : List Tm) (b : Tm) : Prop := isVar n = false ∧ n = b.name ∧ xs.length = b.args.length
instance (n : ByteArray) (xs : List Tm) (b : Tm) : Decidable (headEq n xs b) := by unfold headEq; infer_instance
def Goes (l m : List Pr) : Prop := ∃ r, m = l ++ r
theorem Goes.refl (l : List Pr) : Goes l l := ⟨[], by simp⟩
theorem Goes.trans {a b c : List Pr} (h : Goes a b) (k : Goes b c) : Goes a c := by
  obtain ⟨r, rfl⟩ := h
  obtain ⟨q, rfl⟩ := k
  exact ⟨r ++ q, by simp⟩
end Go.Proofs.YtehnjhkndbcmgaaDoor

namespace Go.Proofs.YtehnjhkndbcmgaaDoor
open Go Go.RowKit
set_option linter.unusedVariables false
end Go.Proofs.YtehnjhkndbcmgaaDoor

namespace Go.Proofs.YtehnjhkndbcmgaaDoor
open Go Go.RowKit
set_option linter.unusedVariables false
def posN : List ByteArray → ByteArray → Nat
  | [], _ => 0
  | x :: l, n => if x = n then 0 else posN l n + 1
def addN (l : List ByteArray) (n : ByteArray) : List ByteArray := if posN l n < l.length then l else l ++ [n]
theorem posN_le (l : List ByteArray) (n : ByteArray) : posN l n ≤ l.length := by
  induction l with
  | nil => exact Nat.le_refl _
  | cons p l ih => rw [posN]; split <;> simp; omega
theorem posN_iff {l : List ByteArray} {n : ByteArray} : posN l n < l.length ↔ n ∈ l := by
  induction l with
  | nil => simp [posN]
  | cons x l ih =>
    rw [posN]
    by_cases e : x = n
    · rw [if_pos e]; simp [e]
    · rw [if_neg e, List.length_cons, List.mem_cons]
      constructor
      · intro h; exact .inr (ih.1 (by omega))
      · rintro (h | h)
        · exact absurd h.symm e
        · have := ih.2 h; omega
theorem posN_snoc {l : List ByteArray} {n : ByteArray} (h : ¬ posN l n < l.length) : posN (l ++ [n]) n = l.length := by
  induction l with
  | nil => simp [posN]
  | cons x l ih =>
    rw [posN] at h
    rw [List.cons_append, posN]
    by_cases e : x = n
    · rw [if_pos e] at h; simp at h
    · rw [if_neg e] at h
      rw [if_neg e, ih (by simpa using h), List.length_cons]
theorem addN_var {l : List ByteArray} {n : ByteArray} (hv : isVar n = true) : addN l n = addVar l n := by
  unfold addN
  by_cases h : n ∈ l
  · rw [if_pos (posN_iff.2 h), addVar_in (isIn_iff.2 h)]
  · rw [if_neg (fun k => h (posN_iff.1 k)), addVar_yes hv (isIn_no.2 h)]
def GoesN (l m : List ByteArray) : Prop := ∃ r, m = l ++ r
theorem GoesN.trans {a b c : List ByteArray} (h : GoesN a b) (k : GoesN b c) : GoesN a c := by
  obtain ⟨r, rfl⟩ := h
  obtain ⟨q, rfl⟩ := k
  exact ⟨r ++ q, by simp⟩
end Go.Proofs.YtehnjhkndbcmgaaDoor

namespace Go.Proofs.YtehnjhkndbcmgaaDoor
open Go Go.RowKit
set_option linter.unusedVariables false
def occ (x : ByteArray) (t : Tm) : Bool := t.knots.any fun k => decide (k.name = x)
theorem knotsL_any (p : Tm → Bool) : ∀ xs : List Tm, (Tm.knotsL xs).any p = xs.any fun t => t.knots.any p
  | [] => rfl
  | t :: ts => by rw [Tm.knotsL, List.any_append, knotsL_any p ts, List.any_cons]
theorem occ_eq (x : ByteArray) (t : Tm) : occ x t = (decide (t.name = x) || t.args.any (occ x)) := by
  unfold occ
  rw [Tm.knots_eq, List.any_cons, knotsL_any]
theorem occ_iff {x : ByteArray} {t : Tm} : occ x t = true ↔ t.name = x ∨ ∃ a ∈ t.args, occ x a = true := by
  rw [occ_eq, Bool.or_eq_true, decide_eq_true_eq, List.any_eq_true]
theorem occ_arg {x : ByteArray} {t a : Tm} (ha : a ∈ t.args) (h : occ x a = true) : occ x t = true := occ_iff.2 (.inr ⟨a, ha, h⟩)
theorem occ_no {x : ByteArray} {t : Tm} (h : occ x t = false) : t.name ≠ x ∧ ∀ a ∈ t.args, occ x a = false := by
  rw [occ_eq, Bool.or_eq_false_iff, decide_eq_false_iff_not, List.any_eq_false] at h
  exact ⟨h.1, fun a ha => by simpa using h.2 a ha⟩
def NoDom (s : List Bd) (t : Tm) : Prop := ∀ b ∈ s, occ b.1 t = false
theorem on_id {s : List Bd} {t : Tm} (h : NoDom s t) : t.on s = t := by
  induction hN : SizeOf.sizeOf t using Nat.strongRecOn generalizing t with
  | _ N ih =>
  subst hN
  have hl : lookup s t.name = none := lookup_none fun b hb e => (occ_no (h b hb)).1 e.symm
  rw [Tm.on_knot (.inl hl)]
  have hm : t.args.map (Tm.on s) = t.args := by
    conv => rhs; rw [← List.map_id t.args]
    exact List.map_congr_left fun a ha => ih _ (Tm.lt_of_arg ha) (fun b hb => (occ_no (h b hb)).2 a ha) rfl
  rw [hm]
  cases t; rfl
theorem lookup_dom {s : List Bd} {n : ByteArray} (h : lookup s n = none) : ∀ b ∈ s, b.1 ≠ n := by
  unfold lookup at h
  rw [Option.map_eq_none_iff, List.find?_eq_none] at h
  exact fun b hb e => h b hb (by simpa using e)
theorem occ_on {s : List Bd} (hv : ∀ b ∈ s, isVar b.1 = true) {t : Tm} (hc : t.chk = 0) {y : ByteArray} (h : occ y (t.on s) = true) : (occ y t = true ∧ ∀ b ∈ s, b.1 ≠ y) ∨ ∃ b ∈ s, occ y b.2 = true := by
  induction hN : SizeOf.sizeOf t using Nat.strongRecOn generalizing t with
  | _ N ih =>
  subst hN
  obtain ⟨c1, c2⟩ := Tm.chk_args hc
  cases hl : lookup s t.name with
  | some x =>
    obtain ⟨b, hb, hbn, hbx⟩ := lookup_mem hl
    rw [Tm.on_leaf hl (c1 (by rw [← hbn]; exact hv b hb)), ← hbx] at h
    exact .inr ⟨b, hb, h⟩
  | none =>
    rw [Tm.on_knot (.inl hl), occ_iff] at h
    rcases h with h | ⟨a, ha, h⟩
    · simp only [Tm.name_mk] at h
      refine .inl ⟨occ_iff.2 (.inl h), fun b hb => ?_⟩
      rw [← h]
      exact lookup_dom hl b hb
    · simp only [Tm.args_mk, List.mem_map] at ha
      obtain ⟨c, hc', rfl⟩ := ha
      rcases ih _ (Tm.lt_of_arg hc') (c2 c hc') h rfl with h | h
      · exact .inl ⟨occ_arg hc' h.1, h.2⟩
      · exact .inr h
theorem chk_mk {t : Tm} (h : chkOne t = 0) (ha : ∀ a ∈ t.args, a.chk = 0) : t.chk = 0 := by
  rw [Tm.chk_eq, if_pos h]
  have key : ∀ {xs : List Tm}, (∀ a ∈ xs, a.chk = 0) → Tm.chkL xs = 0 := by
    intro xs
    induction xs with
    | nil => intro _; rfl
    | cons x xs ih => intro hx; simp only [Tm.chkL]; rw [if_pos (hx x (by simp))]; exact ih fun a ha => hx a (by simp [ha])
  exact key ha
theorem chk_one {t : Tm} (h : t.chk = 0) : chkOne t = 0 := by
  rw [Tm.chk_eq] at h
  by_cases h1 : chkOne t = 0
  · exact h1
  · rw [if_neg h1] at h; exact h
theorem chk_on {s : List Bd} (hs : ∀ b ∈ s, b.2.chk = 0) {t : Tm} (hc : t.chk = 0) : (t.on s).chk = 0 := by
  induction hN : SizeOf.sizeOf t using Nat.strongRecOn generalizing t with
  | _ N ih =>
  subst hN
  obtain ⟨c1, c2⟩ := Tm.chk_args hc
  by_cases hleaf : (∃ x, lookup s t.name = some x) ∧ t.args = []
  · obtain ⟨⟨x, hx⟩, h0⟩ := hleaf
    rw [Tm.on_leaf hx h0]
    obtain ⟨b, hb, _, rfl⟩ := lookup_mem hx
    exact hs b hb
  · have hon : t.on s = .mk t.name (t.args.map (Tm.on s)) := Tm.on_knot (by
      cases hl : lookup s t.name with
      | none => exact .inl rfl
      | some x => exact .inr fun h0 => hleaf ⟨⟨x, hl⟩, h0⟩)
    rw [hon]
    refine chk_mk ?_ fun a ha => ?_
    · have := chk_one hc
      unfold chkOne at this ⊢
      simpa only [Tm.name_mk, Tm.args_mk, List.length_map] using this
    · simp only [Tm.args_mk, List.mem_map] at ha
      obtain ⟨c, hc', rfl⟩ := ha
      exact ih _ (Tm.lt_of_arg hc') (c2 c hc') rfl
inductive UOut where
  | err (e : Int)
  | go (s : List Bd) (ps : List Pr)
def bindV (s : List Bd) (x : ByteArray) (t : Tm) : UOut :=
  if occ x t = true then .err 6 else if (s.all fun b => decide ((b.2.on [(x, t)]).size ≤ 2000)) = true then .go (sortB (s.map (fun b => (b.1, b.2.on [(x, t)])) ++ [(x, t)])) [] else .err 8
def stepU (s : List Bd) (p : Pr) : UOut :=
  if 2000 < (p.1.on s).size ∨ 2000 < (p.2.on s).size then .err 8
  else if isVar (p.1.on s).name = true ∧ (p.1.on s).name = (p.2.on s).name then .go s []
  else if isVar (p.1.on s).name = true then bindV s (p.1.on s).name (p.2.on s)
  else if isVar (p.2.on s).name = true then bindV s (p.2.on s).name (p.1.on s)
  else if (p.1.on s).name = (p.2.on s).name ∧ (p.1.on s).args.length = (p.2.on s).args.length then .go s ((p.1.on s).args.zip (p.2.on s).args)
  else .err 5
inductive UEnds : Nat → List Bd → List Pr → List Bd × Int → Prop
  | nil {s} : UEnds 0 s [] (s, 0)
  | err {s p l e} : stepU s p = .err e → UEnds 1 s (p :: l) ([], e)
  | go {s p l s' ps n r} : stepU s p = .go s' ps → UEnds n s' (ps ++ l) r → UEnds (n + 1) s (p :: l) r
def Fits (C v : Nat) (s : List Bd) : List Pr → Prop
  | [] => True
  | p :: l => l.length + 2000 * min (p.1.on s).size 2000 + 4000000 * v ≤ C ∧ Fits C v s l
theorem Fits.less {C v v' : Nat} {s s' : List Bd} (hv : v' + 1 ≤ v) : ∀ {l : List Pr}, Fits C v s l → Fits C v' s' l
  | [], _ => trivial
  | p :: l, h => ⟨by have := h.1; have := Nat.min_le_right (p.1.on s').size 2000; omega, Fits.less hv h.2⟩
theorem Fits.more {C v m : Nat} {s : List Bd} {l : List Pr} (hm : m + 1 ≤ 2000) (hC : l.length + 2000 * (m + 1) + 4000000 * v ≤ C) (hl : Fits C v s l) : ∀ {ps : List Pr}, ps.length ≤ 2000 → (∀ c ∈ ps, (c.1.on s).size ≤ m) → Fits C v s (ps ++ l)
  | [], _, _ => hl
  | c :: ps, h1, h2 => by
    refine ⟨?_, Fits.more hm hC hl (by simp at h1; omega) fun c hc => h2 c (by simp [hc])⟩
    have h3 := h2 c (by simp)
    have h4 := Nat.min_le_left (c.1.on s).size 2000
    simp only [List.length_cons] at h1
    have e : (ps ++ l).length = ps.length + l.length := List.length_append
    show (ps ++ l).length + _ + _ ≤ C
    omega
structure UGood (U : List ByteArray) (C : Nat) (s : List Bd) (l : List Pr) : Prop where
  ord : Ordered s
  var : ∀ b ∈ s, isVar b.1 = true
  inU : ∀ b ∈ s, b.1 ∈ U
  chk : ∀ b ∈ s, b.2.chk = 0
  siz : ∀ b ∈ s, b.2.size ≤ 2000
  idem : ∀ b ∈ s, NoDom s b.2
  ranU : ∀ b ∈ s, ∀ y, occ y b.2 = true → y ∈ U
  lchk : ∀ p ∈ l, p.1.chk = 0 ∧ p.2.chk = 0
  lU : ∀ p ∈ l, ∀ y, (occ y p.1 = true → y ∈ U) ∧ (occ y p.2 = true → y ∈ U)
  lsiz : ∀ p ∈ l, p.1.size ≤ 2000 ∧ p.2.size ≤ 2000
  fits : Fits C (U.length - s.length) s l
theorem filter_less {x : ByteArray} : ∀ {m : List ByteArray}, x ∈ m → (m.filter fun y => !decide (y = x)).length + 1 ≤ m.length
  | y :: m, h => by
    have hle := List.length_filter_le (fun y => !decide (y = x)) m
    by_cases e : y = x
    · rw [List.filter_cons_of_neg (by simp [e]), List.length_cons]
      omega
    · rw [List.filter_cons_of_pos (by simp [e]), List.length_cons, List.length_cons]
      have := filter_less (x := x) (m := m) ((List.mem_cons.1 h).resolve_left fun h => e h.symm)
      omega
theorem nodup_sub : ∀ {l m : List ByteArray}, l.Nodup → (∀ x ∈ l, x ∈ m) → l.length ≤ m.length
  | [], m, _, _ => Nat.zero_le _
  | x :: l, m, hn, hs => by
    obtain ⟨n1, n2⟩ := List.nodup_cons.1 hn
    have h1 := nodup_sub (m := m.filter fun y => !decide (y = x)) n2 fun y hy => List.mem_filter.2 ⟨hs y (by simp [hy]), by
      have : y ≠ x := fun e => n1 (by rw [← e]; exact hy)
      simp [this]⟩
    have := filter_less (hs x (by simp))
    rw [List.length_cons]
    omega
theorem UGood.len {U : List ByteArray} {C : Nat} {s : List Bd} {l : List Pr} (h : UGood U C s l) : s.length ≤ U.length := by
  have := nodup_sub (l := s.map (fun b : Bd => b.1)) (m := U) (ordered_named h.ord) fun x hx => by
    obtain ⟨b, hb, rfl⟩ := List.mem_map.1 hx
    exact h.inU b hb
  simpa using this
theorem UGood.stack {U : List ByteArray} {C : Nat} {s : List Bd} {l : List Pr} (h : UGood U C s l) : l.length ≤ C + 1 := by
  cases l with
  | nil => simp
  | cons p l => have := h.fits.1; simp; omega
def sumL (s : List Bd) : List Pr → Nat
  | [] => 0
  | p :: l => (p.1.on s).size + sumL s l
theorem sumL_append (s : List Bd) : ∀ (ps l : List Pr), sumL s (ps ++ l) = sumL s ps + sumL s l
  | [], l => by simp [sumL]
  | p :: ps, l => by rw [List.cons_append, sumL, sumL_append s ps l, sumL]; omega
theorem zip_mem {α β : Type} {xs : List α} {ys : List β} {c : α × β} (h : c ∈ xs.zip ys) : c.1 ∈ xs ∧ c.2 ∈ ys := by
  obtain ⟨a, b⟩ := c
  exact ⟨(List.of_mem_zip h).1, (List.of_mem_zip h).2⟩
theorem UGood.tail {U : List ByteArray} {C : Nat} {s : List Bd} {p : Pr} {l : List Pr} (h : UGood U C s (p :: l)) : UGood U C s l :=
  { h with lchk := fun q hq => h.lchk q (by simp [hq]), lU := fun q hq => h.lU q (by simp [hq]), lsiz := fun q hq => h.lsiz q (by simp [hq]), fits := h.fits.2 }
theorem onU {U : List ByteArray} {C : Nat} {s : List Bd} {l : List Pr} (h : UGood U C s l) {t : Tm} (hc : t.chk = 0) (hU : ∀ y, occ y t = true → y ∈ U) : (t.on s).chk = 0 ∧ NoDom s (t.on s) ∧ ∀ y, occ y (t.on s) = true → y ∈ U := by
  refine ⟨chk_on h.chk hc, fun b hb => ?_, fun y hy => ?_⟩
  · cases ho : occ b.1 (t.on s) with
    | false => rfl
    | true =>
      rcases occ_on h.var hc ho with ⟨_, k⟩ | ⟨c, hc', k⟩
      · exact absurd rfl (k b hb)
      · rw [h.idem c hc' b hb] at k; cases k
  · rcases occ_on h.var hc hy with ⟨k, _⟩ | ⟨c, hc', k⟩
    · exact hU y k
    · exact h.ranU c hc' y k
theorem bindV_good {U : List ByteArray} {C : Nat} {s : List Bd} {l : List Pr} (h : UGood U C s l) {x : ByteArray} {t : Tm} (hx : isVar x = true) (hxU : x ∈ U) (hxs : ∀ b ∈ s, b.1 ≠ x) (htc : t.chk = 0) (hts : t.size ≤ 2000) (htn : NoDom s t) (htU : ∀ y, occ y t = true → y ∈ U) {s' : List Bd} {ps : List Pr} (hb : bindV s x t = .go s' ps) :
    ps = [] ∧ UGood U C s' l ∧ s.length < s'.length := by
  unfold bindV at hb
  split at hb
  · cases hb
  rename_i ho
  have ho : occ x t = false := by simpa using ho
  split at hb
  · rename_i hall
    cases hb
    have hone : ∀ b ∈ [(x, t)], isVar b.1 = true := by simp [hx]
    have honec : ∀ b ∈ ([(x, t)] : List Bd), b.2.chk = 0 := by simp [htc]
    have hmem : ∀ b, b ∈ s.map (fun b => (b.1, b.2.on [(x, t)])) ++ [(x, t)] ↔ (∃ c ∈ s, b = (c.1, c.2.on [(x, t)])) ∨ b = (x, t) := fun b => by
      simp only [List.mem_append, List.mem_map, List.mem_singleton]
      constructor
      · rintro (⟨c, hc, rfl⟩ | h)
        · exact .inl ⟨c, hc, rfl⟩
        · exact .inr h
      · rintro (⟨c, hc, rfl⟩ | h)
        · exact .inl ⟨c, hc, rfl⟩
        · exact .inr h
    have hnamed : Named (s.map (fun b => (b.1, b.2.on [(x, t)])) ++ [(x, t)]) := by
      have := ordered_named h.ord
      unfold Named at this ⊢
      rw [List.map_append, List.map_map, List.nodup_append]
      refine ⟨this, by simp, fun a ha b hb e => ?_⟩
      obtain ⟨c, hc, rfl⟩ := List.mem_map.1 ha
      simp only [List.map_cons, List.map_nil, List.mem_singleton] at hb
      exact hxs c hc (e.trans hb)
    have hoccr : ∀ c ∈ s, ∀ y, occ y (c.2.on [(x, t)]) = true → (occ y c.2 = true ∧ x ≠ y) ∨ occ y t = true := fun c hc y hy => by
      rcases occ_on hone (h.chk c hc) hy with ⟨k1, k2⟩ | ⟨b, hb, k⟩
      · exact .inl ⟨k1, k2 (x, t) (by simp)⟩
      · rw [List.mem_singleton] at hb
        subst hb
        exact .inr k
    have hfree : ∀ b ∈ s.map (fun b => (b.1, b.2.on [(x, t)])) ++ [(x, t)], ∀ c ∈ s.map (fun b => (b.1, b.2.on [(x, t)])) ++ [(x, t)], occ c.1 b.2 = false := fun b hb c hc => by
      cases hoc : occ c.1 b.2 with
      | false => rfl
      | true =>
        exfalso
        rcases (hmem b).1 hb with ⟨b', hb', rfl⟩ | rfl
        · rcases hoccr b' hb' _ hoc with ⟨k1, k2⟩ | k
          · rcases (hmem c).1 hc with ⟨c', hc', rfl⟩ | rfl
            · have := h.idem b' hb' c' hc'
              rw [k1] at this
              cases this
            · exact k2 rfl
          · rcases (hmem c).1 hc with ⟨c', hc', rfl⟩ | rfl
            · have := htn c' hc'
              rw [k] at this
              cases this
            · rw [k] at ho; cases ho
        · rcases (hmem c).1 hc with ⟨c', hc', rfl⟩ | rfl
          · have := htn c' hc'
            rw [hoc] at this
            cases this
          · rw [hoc] at ho; cases ho
    have hlen : (sortB (s.map (fun b => (b.1, b.2.on [(x, t)])) ++ [(x, t)])).length = s.length + 1 := by rw [sortB_length]; simp
    have hinU : ∀ b ∈ sortB (s.map (fun b => (b.1, b.2.on [(x, t)])) ++ [(x, t)]), b.1 ∈ U := fun b hb => by
      rcases (hmem b).1 (sortB_mem.1 hb) with ⟨c, hc, rfl⟩ | rfl
      · exact h.inU c hc
      · exact hxU
    have hle : s.length + 1 ≤ U.length := by
      have := nodup_sub (l := (sortB (s.map (fun b => (b.1, b.2.on [(x, t)])) ++ [(x, t)])).map (fun b : Bd => b.1)) (m := U) (ordered_named (sortB_ordered hnamed)) fun y hy => by
        obtain ⟨b, hb, rfl⟩ := List.mem_map.1 hy
        exact hinU b hb
      rw [List.length_map, hlen] at this
      exact this
    refine ⟨rfl, ⟨sortB_ordered hnamed, fun b hb => ?_, hinU, fun b hb => ?_, fun b hb => ?_, fun b hb c hc => hfree b (sortB_mem.1 hb) c (sortB_mem.1 hc), fun b hb y hy => ?_, h.lchk, h.lU, h.lsiz, Fits.less (by rw [hlen]; omega) h.fits⟩, by rw [hlen]; omega⟩
    · rcases (hmem b).1 (sortB_mem.1 hb) with ⟨c, hc, rfl⟩ | rfl
      · exact h.var c hc
      · exact hx
    · rcases (hmem b).1 (sortB_mem.1 hb) with ⟨c, hc, rfl⟩ | rfl
      · exact chk_on honec (h.chk c hc)
      · exact htc
    · rcases (hmem b).1 (sortB_mem.1 hb) with ⟨c, hc, rfl⟩ | rfl
      · have := List.all_eq_true.1 hall c hc
        simpa using this
      · exact hts
    · rcases (hmem b).1 (sortB_mem.1 hb) with ⟨c, hc, rfl⟩ | rfl
      · rcases hoccr c hc y hy with k | k
        · exact h.ranU c hc y k.1
        · exact htU y k
      · exact htU y hy
  · cases hb
theorem step_good {U : List ByteArray} {C : Nat} {s : List Bd} {p : Pr} {l : List Pr} (h : UGood U C s (p :: l)) {s' : List Bd} {ps : List Pr} (hs : stepU s p = .go s' ps) :
    UGood U C s' (ps ++ l) ∧ (s.length < s'.length ∨ (s' = s ∧ sumL s (ps ++ l) < sumL s (p :: l))) := by
  obtain ⟨hc1, hc2⟩ := h.lchk p (by simp)
  have hU := h.lU p (by simp)
  obtain ⟨a1, a2, a3⟩ := onU h hc1 fun y => (hU y).1
  obtain ⟨b1, b2, b3⟩ := onU h hc2 fun y => (hU y).2
  have hpos := Tm.size_pos (p.1.on s)
  have nameNo : ∀ {t : Tm}, NoDom s t → ∀ b ∈ s, b.1 ≠ t.name := fun {t} hn b hb e => (occ_no (hn b hb)).1 e.symm
  have nameU : ∀ {t : Tm}, (∀ y, occ y t = true → y ∈ U) → t.name ∈ U := fun {t} ht => ht _ (occ_iff.2 (.inl rfl))
  unfold stepU at hs
  split at hs
  · cases hs
  rename_i hz
  rw [not_or] at hz
  split at hs
  · cases hs
    exact ⟨h.tail, .inr ⟨rfl, by simp only [List.nil_append, sumL]; omega⟩⟩
  split at hs
  · rename_i hv
    obtain ⟨rfl, k1, k2⟩ := bindV_good h.tail hv (nameU a3) (nameNo a2) b1 (by omega) b2 b3 hs
    exact ⟨k1, .inl k2⟩
  split at hs
  · rename_i hv
    obtain ⟨rfl, k1, k2⟩ := bindV_good h.tail hv (nameU b3) (nameNo b2) a1 (by omega) a2 a3 hs
    exact ⟨k1, .inl k2⟩
  split at hs
  · rename_i heq
    cases hs
    have hsz := Tm.size_eq (p.1.on s)
    have hlen := Tm.length_le (p.1.on s).args
    have hid : ∀ a ∈ (p.1.on s).args, a.on s = a := fun a ha => on_id fun b hb => (occ_no (a2 b hb)).2 a ha
    have hsum : ∀ (xs ys : List Tm), (∀ a ∈ xs, a.on s = a) → sumL s (xs.zip ys) ≤ Tm.sizes xs := by
      intro xs
      induction xs with
      | nil => intro ys _; simp [sumL]
      | cons x xs ih =>
        intro ys hx
        cases ys with
        | nil => simp [sumL]
        | cons y ys =>
          have := ih ys fun a ha => hx a (by simp [ha])
          simp only [List.zip_cons_cons, sumL, Tm.sizes]
          rw [hx x (by simp)]
          omega
    have hzl : ((p.1.on s).args.zip (p.2.on s).args).length ≤ (p.1.on s).args.length := by rw [List.length_zip]; exact Nat.min_le_left _ _
    have hmin : min (p.1.on s).size 2000 = (p.1.on s).size := Nat.min_eq_left (by omega)
    have hf := h.fits.1
    rw [hmin] at hf
    have hszb := Tm.size_eq (p.2.on s)
    refine ⟨⟨h.ord, h.var, h.inU, h.chk, h.siz, h.idem, h.ranU, fun q hq => ?_, fun q hq => ?_, fun q hq => ?_, Fits.more (m := (p.1.on s).size - 1) (by omega) (by omega) h.fits.2 (by omega) fun c hc => ?_⟩, .inr ⟨rfl, ?_⟩⟩
    · rcases List.mem_append.1 hq with hq | hq
      · exact ⟨(Tm.chk_args a1).2 _ (zip_mem hq).1, (Tm.chk_args b1).2 _ (zip_mem hq).2⟩
      · exact h.tail.lchk q hq
    · rcases List.mem_append.1 hq with hq | hq
      · exact fun y => ⟨fun hy => a3 y (occ_arg (zip_mem hq).1 hy), fun hy => b3 y (occ_arg (zip_mem hq).2 hy)⟩
      · exact h.tail.lU q hq
    · rcases List.mem_append.1 hq with hq | hq
      · have h1 := Tm.size_mem (zip_mem hq).1
        have h2 := Tm.size_mem (zip_mem hq).2
        omega
      · exact h.tail.lsiz q hq
    · rw [hid _ (zip_mem hc).1]
      have h1 := Tm.size_mem (zip_mem hc).1
      omega
    · rw [sumL_append]
      have h1 := hsum _ (p.2.on s).args hid
      simp only [sumL]
      omega
  · cases hs
end Go.Proofs.YtehnjhkndbcmgaaDoor

namespace Go.Proofs.YtehnjhkndbcmgaaDoor
open Go Go.RowKit
set_option linter.unusedVariables false
end Go.Proofs.YtehnjhkndbcmgaaDoor

namespace Go.Proofs.YtehnjhkndbcmgaaDoor
open Go Go.RowKit
set_option linter.unusedVariables false
section
variable {p t : Tm} {l : List Bd}
end
structure MtOk (l l' : List Bd) (many most : Nat) : Prop where
  named : Named l → Named l'
  len : l'.length ≤ l.length + many
  size : ∀ b ∈ l', b ∈ l ∨ b.2.size ≤ most
theorem MtOk.refl (l : List Bd) (n m : Nat) : MtOk l l n m := ⟨fun h => h, by omega, fun b hb => .inl hb⟩
theorem MtOk.trans {a b c : List Bd} {n m k n' m' : Nat} (h : MtOk a b n m) (h' : MtOk b c n' m') (hn : n + n' ≤ k) {M : Nat} (h1 : m ≤ M) (h2 : m' ≤ M) : MtOk a c k M := by
  refine ⟨fun q => h'.named (h.named q), by have := h.len; have := h'.len; omega, fun x hx => ?_⟩
  rcases h'.size x hx with h3 | h3
  · rcases h.size x h3 with h4 | h4
    · exact .inl h4
    · exact .inr (by omega)
  · exact .inr (by omega)
end Go.Proofs.YtehnjhkndbcmgaaDoor

namespace Go.Proofs.YtehnjhkndbcmgaaDoor
open Go Go.RowKit
set_option linter.unusedVariables false
inductive Lm where
  | mk (kind idx : Int) (subs : List Lm)
def Lm.kind : Lm → Int | .mk k _ _ => k
def Lm.idx : Lm → Int | .mk _ i _ => i
def Lm.subs : Lm → List Lm | .mk _ _ xs => xs
theorem Lm.kind_mk (k i : Int) (xs : List Lm) : (Lm.mk k i xs).kind = k := rfl
theorem Lm.idx_mk (k i : Int) (xs : List Lm) : (Lm.mk k i xs).idx = i := rfl
theorem Lm.subs_mk (k i : Int) (xs : List Lm) : (Lm.mk k i xs).subs = xs := rfl
theorem Lm.eta (t : Lm) : Lm.mk t.kind t.idx t.subs = t := by cases t; rfl
mutual
def encL : Lm → List SV
  | .mk k i xs => [.int .i64 k, .int .i64 i, .list (encLs xs)]
def encLs : List Lm → List (List SV)
  | [] => []
  | t :: ts => encL t :: encLs ts
end
theorem encLs_eq : ∀ xs : List Lm, encLs xs = xs.map encL
  | [] => rfl
  | t :: ts => by rw [encLs, encLs_eq ts]; rfl
theorem encL_eq (t : Lm) : encL t = [.int .i64 t.kind, .int .i64 t.idx, .list (t.subs.map encL)] := by
  cases t
  rw [encL, encLs_eq]
  rfl
theorem len_encL (t : Lm) : (encL t).length = 3 := by rw [encL_eq]; rfl
instance : Lens encL 3 := ⟨len_encL⟩
abbrev aLm (t : Lm) : AV := .agg [.st (.int .i64 t.kind), .st (.int .i64 t.idx), .st (.list (t.subs.map encL))]
abbrev aLms (l : List Lm) : AV := .one (.st (.list (l.map encL)))
theorem known_lm {S : AStore} {t : Lm} (h : (aLm t).known S) : (-9223372036854775808 ≤ t.kind ∧ t.kind ≤ 9223372036854775807) ∧ (-9223372036854775808 ≤ t.idx ∧ t.idx ≤ 9223372036854775807) ∧ t.subs.length ≤ 9223372036854775807 := by
  have h1 : inR .i64 t.kind := by
    have := h (.st (.int .i64 t.kind)) (by simp)
    simpa [AC.known, SV.known] using this
  have h2 : inR .i64 t.idx := by
    have := h (.st (.int .i64 t.idx)) (by simp)
    simpa [AC.known, SV.known] using this
  have h3 : t.subs.length ≤ maxLen := by
    have := h (.st (.list (t.subs.map encL))) (by simp)
    simp only [AC.known, SV.known, List.length_map] at this
    exact this.1
  rw [inR_i64] at h1 h2
  rw [maxLen_eq] at h3
  exact ⟨h1, h2, h3⟩
theorem Lm.lt_of_mem {a : Lm} {k i : Int} {xs : List Lm} (h : a ∈ xs) : SizeOf.sizeOf a < SizeOf.sizeOf (Lm.mk k i xs) := by
  have := List.sizeOf_lt_of_mem h
  simp only [Lm.mk.sizeOf_spec]
  omega
theorem Lm.lt_of_sub {a t : Lm} (h : a ∈ t.subs) : SizeOf.sizeOf a < SizeOf.sizeOf t := by
  cases t
  exact Lm.lt_of_mem h
attribute [go_sem] Lm.kind_mk Lm.idx_mk Lm.subs_mk encL_eq
mutual
def Lm.size : Lm → Nat
  | .mk _ _ xs => 1 + Lm.sizes xs
def Lm.sizes : List Lm → Nat
  | [] => 0
  | t :: ts => t.size + Lm.sizes ts
end
theorem Lm.sizes_append (xs ys : List Lm) : Lm.sizes (xs ++ ys) = Lm.sizes xs + Lm.sizes ys := by
  induction xs with
  | nil => simp [Lm.sizes]
  | cons t ts ih => simp only [List.cons_append, Lm.sizes, ih]; omega
theorem Lm.sizes_take {xs : List Lm} {k : Nat} {a : Lm} (h : xs[k]? = some a) : Lm.sizes (xs.take (k+1)) = Lm.sizes (xs.take k) + a.size := by
  rw [take_snoc h, Lm.sizes_append]; simp [Lm.sizes]
theorem Lm.sizes_take_le (xs : List Lm) (k : Nat)  : Lm.sizes (xs.take k) ≤ Lm.sizes xs := by
  have := Lm.sizes_append (xs.take k) (xs.drop k)
  rw [List.take_append_drop] at this
  omega
theorem Lm.size_eq (t : Lm) : t.size = 1 + Lm.sizes t.subs := by cases t; rfl
theorem Lm.size_pos (t : Lm) : 1 ≤ t.size := by rw [Lm.size_eq]; omega
theorem Lm.size_mem {a : Lm} {xs : List Lm} (h : a ∈ xs) : a.size ≤ Lm.sizes xs := by
  induction xs with
  | nil => simp at h
  | cons t ts ih =>
    rcases List.mem_cons.1 h with rfl | h
    · simp only [Lm.sizes]; omega
    · have := ih h; simp only [Lm.sizes]; omega
theorem Lm.length_le (xs : List Lm) : xs.length ≤ Lm.sizes xs := by
  induction xs with
  | nil => simp [Lm.sizes]
  | cons t ts ih => have := Lm.size_pos t; simp only [Lm.sizes, List.length_cons]; omega
def nSubs (k : Int) : Int := if k = 2 then 1 else if k = 3 then 2 else 0
def mostIdx (k u m : Int) : Int := if k = 1 then u else if k = 4 then 40 else if k = 5 then m else 1
def under (k u : Int) : Int := if k = 2 then u + 1 else u
mutual
def Lm.chk (m : Int) : Lm → Int → Int
  | .mk k i xs, u => if 1 ≤ k ∧ k ≤ 5 ∧ (xs.length : Int) = nSubs k then (if 0 ≤ i ∧ i < mostIdx k u m then Lm.chks m xs (under k u) else 15) else 2
def Lm.chks (m : Int) : List Lm → Int → Int
  | [], _ => 0
  | t :: ts, u => if t.chk m u = 0 then Lm.chks m ts u else t.chk m u
end
theorem Lm.chk_eq (m : Int) (t : Lm) (u : Int) : t.chk m u = if 1 ≤ t.kind ∧ t.kind ≤ 5 ∧ (t.subs.length : Int) = nSubs t.kind then (if 0 ≤ t.idx ∧ t.idx < mostIdx t.kind u m then Lm.chks m t.subs (under t.kind u) else 15) else 2 := by cases t; rfl
theorem Lm.chks_append (m u : Int) (xs ys : List Lm) : Lm.chks m (xs ++ ys) u = if Lm.chks m xs u = 0 then Lm.chks m ys u else Lm.chks m xs u := by
  induction xs with
  | nil => simp [Lm.chks]
  | cons t ts ih =>
    simp only [List.cons_append, Lm.chks]
    by_cases h : t.chk m u = 0
    · simp only [h, if_true, ih]
    · simp only [h, if_false]
theorem Lm.chks_take {m u : Int} {xs : List Lm} {k : Nat} {a : Lm} (h : xs[k]? = some a) (h0 : Lm.chks m (xs.take k) u = 0) : Lm.chks m (xs.take (k+1)) u = a.chk m u := by
  rw [take_snoc h, Lm.chks_append, if_pos h0]
  simp only [Lm.chks]
  split <;> simp_all
theorem Lm.chks_bad {m u : Int} {xs : List Lm} {k : Nat} (h0 : Lm.chks m (xs.take k) u ≠ 0) : Lm.chks m xs u = Lm.chks m (xs.take k) u := by
  have := Lm.chks_append m u (xs.take k) (xs.drop k)
  rw [List.take_append_drop, if_neg h0] at this
  exact this
mutual
def Lm.mv (by_ : Int) : Int → Lm → Lm
  | d, .mk k i xs => .mk k (if k = 1 ∧ d ≤ i then i + by_ else i) (Lm.mvs by_ (under k d) xs)
def Lm.mvs (by_ : Int) : Int → List Lm → List Lm
  | _, [] => []
  | d, t :: ts => Lm.mv by_ d t :: Lm.mvs by_ d ts
end
mutual
def Lm.put (x : Lm) : Int → Lm → Lm
  | d, .mk k i xs => if k = 1 then (if i = d then Lm.mv d 0 x else if d < i then .mk 1 (i - 1) [] else .mk 1 i []) else .mk k i (Lm.puts x (under k d) xs)
def Lm.puts (x : Lm) : Int → List Lm → List Lm
  | _, [] => []
  | d, t :: ts => Lm.put x d t :: Lm.puts x d ts
end
mutual
def Lm.same : Lm → Lm → Bool
  | .mk k i xs, .mk l j ys => decide (k = l) && decide (i = j) && Lm.sames xs ys
def Lm.sames : List Lm → List Lm → Bool
  | [], [] => true
  | x :: xs, y :: ys => x.same y && Lm.sames xs ys
  | [], _ :: _ => false
  | _ :: _, [] => false
end
def Lm.may (m u : Int) (t : Lm) : Int := if u < 0 ∨ 40 < u then 10 else if 200 < t.size then 3 else t.chk m u
def Lm.nil : Lm := .mk 0 0 []
mutual
def Lm.pure : Lm → Bool
  | .mk k _ xs => !decide (k = 4) && Lm.pures xs
def Lm.pures : List Lm → Bool
  | [] => true
  | t :: ts => t.pure && Lm.pures ts
end
theorem Lm.pure_eq (t : Lm) : t.pure = (!decide (t.kind = 4) && Lm.pures t.subs) := by cases t; rfl
end Go.Proofs.YtehnjhkndbcmgaaDoor

namespace Go.Proofs.YtehnjhkndbcmgaaDoor
open Go Go.RowKit
set_option linter.unusedVariables false
inductive Ty where
  | mk (base : Int) (subs : List Ty)
def Ty.base : Ty → Int | .mk k _ => k
def Ty.subs : Ty → List Ty | .mk _ xs => xs
theorem Ty.base_mk (k : Int) (xs : List Ty) : (Ty.mk k xs).base = k := rfl
theorem Ty.subs_mk (k : Int) (xs : List Ty) : (Ty.mk k xs).subs = xs := rfl
mutual
def encY : Ty → List SV
  | .mk k xs => [.int .i64 k, .list (encYs xs)]
def encYs : List Ty → List (List SV)
  | [] => []
  | t :: ts => encY t :: encYs ts
end
theorem encYs_eq : ∀ xs : List Ty, encYs xs = xs.map encY
  | [] => rfl
  | t :: ts => by rw [encYs, encYs_eq ts]; rfl
theorem encY_eq (t : Ty) : encY t = [.int .i64 t.base, .list (t.subs.map encY)] := by
  cases t
  rw [encY, encYs_eq]
  rfl
instance : Lens encY 2 := ⟨fun t => by rw [encY_eq]; rfl⟩
abbrev aTy (t : Ty) : AV := .agg [.st (.int .i64 t.base), .st (.list (t.subs.map encY))]
theorem known_ty {S : AStore} {t : Ty} (h : (aTy t).known S) : (-9223372036854775808 ≤ t.base ∧ t.base ≤ 9223372036854775807) ∧ t.subs.length ≤ 9223372036854775807 := by
  have h1 : inR .i64 t.base := by
    have := h (.st (.int .i64 t.base)) (by simp)
    simpa [AC.known, SV.known] using this
  have h3 : t.subs.length ≤ maxLen := by
    have := h (.st (.list (t.subs.map encY))) (by simp)
    simp only [AC.known, SV.known, List.length_map] at this
    exact this.1
  rw [inR_i64] at h1
  rw [maxLen_eq] at h3
  exact ⟨h1, h3⟩
theorem Ty.lt_of_mem {a : Ty} {k : Int} {xs : List Ty} (h : a ∈ xs) : SizeOf.sizeOf a < SizeOf.sizeOf (Ty.mk k xs) := by
  have := List.sizeOf_lt_of_mem h
  simp only [Ty.mk.sizeOf_spec]
  omega
theorem Ty.lt_of_sub {a t : Ty} (h : a ∈ t.subs) : SizeOf.sizeOf a < SizeOf.sizeOf t := by
  cases t
  exact Ty.lt_of_mem h
attribute [go_sem] Ty.base_mk Ty.subs_mk encY_eq
mutual
def Ty.size : Ty → Nat
  | .mk _ xs => 1 + Ty.sizes xs
def Ty.sizes : List Ty → Nat
  | [] => 0
  | t :: ts => t.size + Ty.sizes ts
end
theorem Ty.sizes_append (xs ys : List Ty) : Ty.sizes (xs ++ ys) = Ty.sizes xs + Ty.sizes ys := by
  induction xs with
  | nil => simp [Ty.sizes]
  | cons t ts ih => simp only [List.cons_append, Ty.sizes, ih]; omega
theorem Ty.sizes_take {xs : List Ty} {k : Nat} {a : Ty} (h : xs[k]? = some a) : Ty.sizes (xs.take (k+1)) = Ty.sizes (xs.take k) + a.size := by
  rw [take_snoc h, Ty.sizes_append]; simp [Ty.sizes]
theorem Ty.sizes_take_le (xs : List Ty) (k : Nat)  : Ty.sizes (xs.take k) ≤ Ty.sizes xs := by
  have := Ty.sizes_append (xs.take k) (xs.drop k)
  rw [List.take_append_drop] at this
  omega
theorem Ty.size_eq (t : Ty) : t.size = 1 + Ty.sizes t.subs := by cases t; rfl
theorem Ty.size_pos (t : Ty) : 1 ≤ t.size := by rw [Ty.size_eq]; omega
theorem Ty.size_mem {a : Ty} {xs : List Ty} (h : a ∈ xs) : a.size ≤ Ty.sizes xs := by
  induction xs with
  | nil => simp at h
  | cons t ts ih =>
    rcases List.mem_cons.1 h with rfl | h
    · simp only [Ty.sizes]; omega
    · have := ih h; simp only [Ty.sizes]; omega
theorem Ty.length_le (xs : List Ty) : xs.length ≤ Ty.sizes xs := by
  induction xs with
  | nil => simp [Ty.sizes]
  | cons t ts ih => have := Ty.size_pos t; simp only [Ty.sizes, List.length_cons]; omega
mutual
def Ty.chk : Ty → Int
  | .mk k xs => if xs.length = 0 ∨ (xs.length = 2 ∧ k = 0) then (if 0 ≤ k ∧ k ≤ 999 then Ty.chks xs else 10) else 2
def Ty.chks : List Ty → Int
  | [] => 0
  | t :: ts => if t.chk = 0 then Ty.chks ts else t.chk
end
theorem Ty.chk_eq (t : Ty) : t.chk = if t.subs.length = 0 ∨ (t.subs.length = 2 ∧ t.base = 0) then (if 0 ≤ t.base ∧ t.base ≤ 999 then Ty.chks t.subs else 10) else 2 := by cases t; rfl
theorem Ty.chks_append (xs ys : List Ty) : Ty.chks (xs ++ ys) = if Ty.chks xs = 0 then Ty.chks ys else Ty.chks xs := by
  induction xs with
  | nil => simp [Ty.chks]
  | cons t ts ih =>
    simp only [List.cons_append, Ty.chks]
    by_cases h : t.chk = 0
    · simp only [h, if_true, ih]
    · simp only [h, if_false]
theorem Ty.chks_take {xs : List Ty} {k : Nat} {a : Ty} (h : xs[k]? = some a) (h0 : Ty.chks (xs.take k) = 0) : Ty.chks (xs.take (k+1)) = a.chk := by
  rw [take_snoc h, Ty.chks_append, if_pos h0]
  simp only [Ty.chks]
  split <;> simp_all
theorem Ty.chks_bad {xs : List Ty} {k : Nat} (h0 : Ty.chks (xs.take k) ≠ 0) : Ty.chks xs = Ty.chks (xs.take k) := by
  have := Ty.chks_append (xs.take k) (xs.drop k)
  rw [List.take_append_drop, if_neg h0] at this
  exact this
def Ty.may (t : Ty) : Int := if 200 < t.size then 3 else t.chk
inductive BT where
  | b (n : Nat)
  | a (x y : BT)
  deriving DecidableEq
def BT.ty : BT → Ty
  | .b n => .mk n []
  | .a x y => .mk 0 [x.ty, y.ty]
def BT.low (m : Nat) : BT → Prop
  | .b n => n < m
  | .a x y => x.low m ∧ y.low m
def BT.sz : BT → Nat
  | .b _ => 1
  | .a x y => 1 + x.sz + y.sz
def BT.txt : BT → ByteArray
  | .b n => ⟨#[97]⟩ ++ decS n
  | .a (.b n) y => (BT.b n).txt ++ ⟨#[62]⟩ ++ y.txt
  | .a (.a u v) y => (⟨#[40]⟩ ++ (BT.a u v).txt ++ ⟨#[41]⟩) ++ ⟨#[62]⟩ ++ y.txt
theorem BT.txt_ab (n : Nat) (y : BT) : (BT.a (.b n) y).txt = (BT.b n).txt ++ ⟨#[62]⟩ ++ y.txt := by simp only [BT.txt]
theorem BT.txt_aa (u v y : BT) : (BT.a (.a u v) y).txt = (⟨#[40]⟩ ++ (BT.a u v).txt ++ ⟨#[41]⟩) ++ ⟨#[62]⟩ ++ y.txt := by simp only [BT.txt]
theorem BT.ty_b_base (n : Nat) : (BT.b n).ty.base = n := rfl
theorem BT.ty_b_subs (n : Nat) : (BT.b n).ty.subs = [] := rfl
theorem BT.ty_a_base (x y : BT) : (BT.a x y).ty.base = 0 := rfl
theorem BT.ty_a_subs (x y : BT) : (BT.a x y).ty.subs = [x.ty, y.ty] := rfl
attribute [go_sem] BT.ty_b_base BT.ty_b_subs BT.ty_a_base BT.ty_a_subs
def BT.sub : BT → List BT
  | .b _ => []
  | .a x y => [x, y]
theorem BT.txt_size : ∀ {x : BT}, x.low 1000000 → x.txt.size ≤ 8 * x.sz
  | .b n, h => by
    have := decS_size_le (n := n) h
    simp only [BT.txt, ByteArray.size_append, BT.sz]
    have : (⟨#[97]⟩ : ByteArray).size = 1 := rfl
    omega
  | .a (.b n) y, h => by
    have h1 := BT.txt_size (x := .b n) h.1
    have h2 := BT.txt_size h.2
    rw [BT.txt, ByteArray.size_append, ByteArray.size_append]
    have : (⟨#[62]⟩ : ByteArray).size = 1 := rfl
    simp only [BT.sz] at *
    omega
  | .a (.a u v) y, h => by
    have h1 := BT.txt_size (x := .a u v) h.1
    have h2 := BT.txt_size h.2
    rw [BT.txt]
    simp only [ByteArray.size_append]
    have e1 : (⟨#[62]⟩ : ByteArray).size = 1 := rfl
    have e2 : (⟨#[40]⟩ : ByteArray).size = 1 := rfl
    have e3 : (⟨#[41]⟩ : ByteArray).size = 1 := rfl
    simp only [BT.sz] at *
    omega
def fS : ByteArray := ⟨#[102]⟩
def arrT (a b : Tm) : Tm := .mk fS [a, b]
def lName (c : UInt8) (n : Nat) : ByteArray := ⟨#[c]⟩ ++ decS n
def lLeaf (c : UInt8) (n : Nat) : Tm := .mk (lName c n) []
theorem lName_list (c : UInt8) (n : Nat) : (lName c n).data.toList = c :: Lib.decDigits n := by
  unfold lName decS
  simp
theorem lName_at (c : UInt8) (n : Nat) : byteAt (lName c n) 0 = (c.toNat : Int) := by
  unfold byteAt
  rw [lName_list]
  rfl
theorem lName_size (c : UInt8) (n : Nat) : (lName c n).size = 1 + Lib.nDigits n := by
  have : (lName c n).size = (lName c n).data.toList.length := by
    show (lName c n).data.size = _
    rw [Array.length_toList]
  rw [this, lName_list, List.length_cons, Lib.decDigits_length]
  omega
theorem lName_var {c : UInt8} (hc : 65 ≤ c.toNat ∧ c.toNat ≤ 90) (n : Nat) : isVar (lName c n) = true := by
  unfold isVar
  rw [lName_at, lName_size, decide_eq_true (by omega), decide_eq_true (show (65 : Int) ≤ (c.toNat : Int) by omega), decide_eq_true (show (c.toNat : Int) ≤ 90 by omega)]
  rfl
theorem lName_ok {c : UInt8} (hc : 65 ≤ c.toNat ∧ c.toNat ≤ 90) {n : Nat} (h : n < 1000000) : nameOk (lName c n) = true := by
  have h6 := nDig_le (u := n) (k := 6) (by omega) (by omega)
  unfold nameOk
  rw [lName_at, lName_size, decide_eq_true (show 1 ≤ 1 + Lib.nDigits n by omega), decide_eq_true (show 1 + Lib.nDigits n ≤ 8 by omega), decide_eq_true (show (48 : Int) ≤ (c.toNat : Int) by omega), decide_eq_false (show ¬ (c.toNat : Int) ≤ 57 by omega)]
  have : lettersTo (lName c n) (1 + Lib.nDigits n) = true := by
    unfold lettersTo
    rw [lName_list]
    refine List.all_eq_true.2 fun d hd => ?_
    have hd := List.mem_of_mem_take hd
    rcases List.mem_cons.1 hd with rfl | hd
    · unfold letterI
      rw [decide_eq_true (show (65 : Int) ≤ (d.toNat : Int) ∧ (d.toNat : Int) ≤ 90 by omega), Bool.or_true, Bool.true_or]
    · have := digits_letters _ d hd
      unfold letterI
      rw [decide_eq_true (show 48 ≤ (d.toNat : Int) ∧ (d.toNat : Int) ≤ 57 by omega), Bool.or_true]
  rw [this]
  rfl
theorem arrT_size (a b : Tm) : (arrT a b).size = 1 + a.size + b.size := by simp only [arrT, Tm.size, Tm.sizes]; omega
theorem fS_var : isVar fS = false := by decide
inductive TT : Tm → Prop
  | v {n : ByteArray} : isVar n = true → nameOk n = true → TT (.mk n [])
  | f {a b : Tm} : TT a → TT b → TT (arrT a b)
theorem TT.chk {t : Tm} (h : TT t) : t.chk = 0 := by
  induction h with
  | @v n h1 h2 =>
    refine chk_mk ?_ fun a ha => by simp [Tm.args_mk] at ha
    unfold chkOne
    rw [Tm.name_mk, if_pos h2, if_neg (by simp [Tm.args_mk])]
  | @f a b _ _ ha hb =>
    refine chk_mk (by unfold chkOne arrT; rw [Tm.name_mk, if_pos (show nameOk fS = true by decide), if_neg (by rw [fS_var]; simp)]) fun c hc => ?_
    simp only [arrT, Tm.args_mk, List.mem_cons, List.not_mem_nil, or_false] at hc
    rcases hc with rfl | rfl
    · exact ha
    · exact hb
theorem lLeaf_tt {c : UInt8} (hc : 65 ≤ c.toNat ∧ c.toNat ≤ 90) {n : Nat} (h : n < 1000000) : TT (lLeaf c n) := .v (lName_var hc n) (lName_ok hc h)
theorem TT.on {s : List Bd} (hs : ∀ b ∈ s, TT b.2) {t : Tm} (h : TT t) (hv : ∀ b ∈ s, isVar b.1 = true) : TT (t.on s) := by
  induction h with
  | @v n h1 h2 =>
    cases hl : lookup s n with
    | some x =>
      rw [Tm.on_leaf (t := .mk n []) (by rw [Tm.name_mk]; exact hl) rfl]
      obtain ⟨b, hb, _, rfl⟩ := lookup_mem hl
      exact hs b hb
    | none =>
      rw [Tm.on_knot (t := .mk n []) (.inl (by rw [Tm.name_mk]; exact hl))]
      exact .v h1 h2
  | @f a b _ _ ha hb =>
    have hl : lookup s fS = none := lookup_none fun c hc e => by
      have := hv c hc
      rw [e, fS_var] at this
      cases this
    rw [arrT, Tm.on_knot (t := .mk fS [a, b]) (.inl (by rw [Tm.name_mk]; exact hl))]
    exact .f ha hb
theorem TT.args {t a : Tm} (h : TT t) (ha : a ∈ t.args) : TT a := by
  cases h with
  | v => simp [Tm.args_mk] at ha
  | @f x y hx hy =>
    simp only [arrT, Tm.args_mk, List.mem_cons, List.not_mem_nil, or_false] at ha
    rcases ha with rfl | rfl
    · exact hx
    · exact hy
def Tm.bk : Tm → List ByteArray → BT × List ByteArray
  | .mk n [], l => (.b (posN l n), addN l n)
  | .mk n [x], l => (.b 0, l)
  | .mk n (x :: y :: _), l => (.a (x.bk l).1 (y.bk (x.bk l).2).1, (y.bk (x.bk l).2).2)
theorem bk_leaf (n : ByteArray) (l : List ByteArray) : (Tm.mk n []).bk l = (.b (posN l n), addN l n) := by rw [Tm.bk]
theorem bk_arr (a b : Tm) (l : List ByteArray) : (arrT a b).bk l = (.a (a.bk l).1 (b.bk (a.bk l).2).1, (b.bk (a.bk l).2).2) := by rw [arrT, Tm.bk]
theorem bk_vars {t : Tm} (h : TT t) : ∀ l, (t.bk l).2 = addVars l t.knots := by
  induction h with
  | @v n h1 h2 =>
    intro l
    rw [bk_leaf, Tm.knots_eq]
    show addN l n = addVar l n
    exact addN_var h1
  | @f a b _ _ ha hb =>
    intro l
    rw [bk_arr, Tm.knots_eq]
    simp only [arrT, Tm.args_mk, Tm.knotsL, List.append_nil]
    rw [hb, ha]
    show _ = addVars (addVar l fS) (a.knots ++ b.knots)
    rw [addVar_no fS_var, addVars_append]
inductive UL where
  | v (i : Nat)
  | l (b : UL)
  | a (f x : UL)
def UL.lm : UL → Lm
  | .v i => .mk 1 i []
  | .l b => .mk 2 0 [b.lm]
  | .a f x => .mk 3 0 [f.lm, x.lm]
def UL.closed : UL → Nat → Prop
  | .v i, u => i < u
  | .l b, u => b.closed (u + 1)
  | .a f x, u => f.closed u ∧ x.closed u
def UL.sz : UL → Nat
  | .v _ => 1
  | .l b => 1 + b.sz
  | .a f x => 1 + f.sz + x.sz
theorem UL.size_lm : ∀ x : UL, x.lm.size = x.sz
  | .v i => rfl
  | .l b => by simp only [UL.lm, Lm.size, Lm.sizes, UL.sz, UL.size_lm b, Nat.add_zero]
  | .a f x => by simp only [UL.lm, Lm.size, Lm.sizes, UL.sz, UL.size_lm f, UL.size_lm x]; omega
theorem ul_of {t : Lm} {u : Nat} (h : t.chk 0 u = 0) (hp : t.pure = true) : ∃ x : UL, t = x.lm ∧ x.closed u := by
  induction hN : SizeOf.sizeOf t using Nat.strongRecOn generalizing t u with
  | _ N ih =>
  subst hN
  cases t with
  | mk k i xs =>
  rw [Lm.chk] at h
  rw [Lm.pure, Bool.and_eq_true, Bool.not_eq_true', decide_eq_false_iff_not] at hp
  obtain ⟨h4, hp⟩ := hp
  split at h
  · rename_i h1
    obtain ⟨h1, h5, h6⟩ := h1
    split at h
    · rename_i h2
      have hk : k = 1 ∨ k = 2 ∨ k = 3 ∨ k = 5 := by omega
      rcases hk with rfl | rfl | rfl | rfl
      · have hx : xs = [] := List.eq_nil_of_length_eq_zero (by simpa [nSubs] using h6)
        subst hx
        have h2 : 0 ≤ i ∧ i < u := by simpa [mostIdx] using h2
        refine ⟨.v i.toNat, ?_, by show i.toNat < u; omega⟩
        show Lm.mk 1 i [] = Lm.mk 1 (i.toNat : Int) []
        rw [Int.toNat_of_nonneg h2.1]
      · have h6 : xs.length = 1 := by have : (xs.length : Int) = 1 := by simpa [nSubs] using h6
                                      omega
        have h2 : i = 0 := by have : 0 ≤ i ∧ i < 1 := by simpa [mostIdx] using h2
                              omega
        subst h2
        match xs, h6, h, hp with
        | [x], _, h, hp =>
          simp only [Lm.chks, under, Int.reduceEq, ↓reduceIte] at h
          have hx : x.chk 0 ((u + 1 : Nat) : Int) = 0 := by
            rw [Int.natCast_add]
            split at h
            · assumption
            · exact h
          simp only [Lm.pures, Bool.and_true] at hp
          obtain ⟨x', rfl, c⟩ := ih _ (Lm.lt_of_mem (k := 2) (i := 0) (show x ∈ [x] by simp)) hx hp rfl
          exact ⟨.l x', rfl, c⟩
      · have h6 : xs.length = 2 := by have : (xs.length : Int) = 2 := by simpa [nSubs] using h6
                                      omega
        have h2 : i = 0 := by have : 0 ≤ i ∧ i < 1 := by simpa [mostIdx] using h2
                              omega
        subst h2
        match xs, h6, h, hp with
        | [x, y], _, h, hp =>
          simp only [Lm.chks, under, Int.reduceEq, ↓reduceIte] at h
          have hx : x.chk 0 u = 0 := by
            split at h
            · assumption
            · exact h
          have hy : y.chk 0 u = 0 := by
            rw [if_pos hx] at h
            split at h
            · assumption
            · exact h
          simp only [Lm.pures, Bool.and_true, Bool.and_eq_true] at hp
          obtain ⟨x', rfl, c⟩ := ih _ (Lm.lt_of_mem (k := 3) (i := 0) (show x ∈ [x, y] by simp)) hx hp.1 rfl
          obtain ⟨y', rfl, d⟩ := ih _ (Lm.lt_of_mem (k := 3) (i := 0) (show y ∈ [x'.lm, y] by simp)) hy hp.2 rfl
          exact ⟨.a x' y', rfl, c, d⟩
      · have h2 : 0 ≤ i ∧ i < 0 := by simpa [mostIdx] using h2
        omega
    · omega
  · omega
theorem ul_pure : ∀ x : UL, x.lm.pure = true
  | .v i => rfl
  | .l b => by simp [UL.lm, Lm.pure, Lm.pures, ul_pure b]
  | .a f x => by simp [UL.lm, Lm.pure, Lm.pures, ul_pure f, ul_pure x]
theorem ul_chk : ∀ (x : UL) (u : Nat), x.closed u → x.lm.chk 0 u = 0
  | .v i, u, h => by
    have h : i < u := h
    rw [UL.lm, Lm.chk, if_pos (by simp [nSubs]), if_pos (by simp [mostIdx]; omega)]
    rfl
  | .l b, u, h => by
    have hb : b.lm.chk 0 ((u : Int) + 1) = 0 := by
      have := ul_chk b (u + 1) h
      simpa using this
    rw [UL.lm, Lm.chk, if_pos (by simp [nSubs]), if_pos (by simp [mostIdx])]
    simp only [Lm.chks, under, if_pos]
    simp [hb]
  | .a f x, u, h => by
    have h1 := ul_chk f u h.1
    have h2 := ul_chk x u h.2
    rw [UL.lm, Lm.chk, if_pos (by simp [nSubs]), if_pos (by simp [mostIdx])]
    simp [Lm.chks, under, h1, h2]
theorem ul_may {x : UL} (h : x.closed 0) (hz : x.sz ≤ 200) : x.lm.may 0 0 = 0 := by
  unfold Lm.may
  rw [if_neg (by omega), UL.size_lm, if_neg (by omega)]
  exact ul_chk x 0 h
def tvar (n : Nat) : Tm := lLeaf 84 n
def UL.ty : UL → List Tm → List Pr × Nat → Tm × (List Pr × Nat)
  | .v i, und, m => (und.getD (und.length - 1 - i) Tm.nil, m)
  | .l b, und, m => (arrT (tvar (m.2 + 1)) (b.ty (und ++ [tvar (m.2 + 1)]) (m.1, m.2 + 1)).1, (b.ty (und ++ [tvar (m.2 + 1)]) (m.1, m.2 + 1)).2)
  | .a f x, und, m => (tvar ((x.ty und (f.ty und m).2).2.2 + 1), ((x.ty und (f.ty und m).2).2.1 ++ [((f.ty und m).1, arrT (x.ty und (f.ty und m).2).1 (tvar ((x.ty und (f.ty und m).2).2.2 + 1)))], (x.ty und (f.ty und m).2).2.2 + 1))
def inT (n : Nat) (t : Tm) : Prop := TT t ∧ ∀ y, occ y t = true → y = fS ∨ ∃ k, 1 ≤ k ∧ k ≤ n ∧ y = lName 84 k
theorem inT.more {m n : Nat} {t : Tm} (h : inT m t) (hm : m ≤ n) : inT n t := ⟨h.1, fun y hy => (h.2 y hy).imp id fun ⟨k, k1, k2, k3⟩ => ⟨k, k1, by omega, k3⟩⟩
theorem inT_var {n k : Nat} (h1 : 1 ≤ k) (h2 : k ≤ n) (h3 : k < 1000000) : inT n (tvar k) := ⟨lLeaf_tt (by decide) h3, fun y hy => by
  rw [occ_iff] at hy
  rcases hy with hy | ⟨a, ha, _⟩
  · exact .inr ⟨k, h1, h2, hy.symm⟩
  · simp [tvar, lLeaf, Tm.args_mk] at ha⟩
theorem inT_arr {n : Nat} {a b : Tm} (ha : inT n a) (hb : inT n b) : inT n (arrT a b) := ⟨.f ha.1 hb.1, fun y hy => by
  rw [occ_iff] at hy
  rcases hy with hy | ⟨c, hc, hy⟩
  · exact .inl hy.symm
  · simp only [arrT, Tm.args_mk, List.mem_cons, List.not_mem_nil, or_false] at hc
    rcases hc with rfl | rfl
    · exact ha.2 y hy
    · exact hb.2 y hy⟩
structure TyOk (K : Nat) (m : List Pr × Nat) : Prop where
  eqs : ∀ p ∈ m.1, (inT m.2 p.1 ∧ p.1.size ≤ K) ∧ (inT m.2 p.2 ∧ p.2.size ≤ K)
theorem TyOk.more {K : Nat} {l : List Pr} {m n : Nat} (h : TyOk K (l, m)) (hm : m ≤ n) : TyOk K (l, n) := ⟨fun p hp => ⟨⟨(h.eqs p hp).1.1.more hm, (h.eqs p hp).1.2⟩, (h.eqs p hp).2.1.more hm, (h.eqs p hp).2.2⟩⟩
theorem ty_ok (K : Nat) : ∀ (x : UL) (und : List Tm) (m : List Pr × Nat), x.closed und.length → (∀ t ∈ und, inT m.2 t ∧ t.size = 1) → 2 * x.sz + 2 ≤ K → m.2 + x.sz < 1000000 → TyOk K m →
    TyOk K (x.ty und m).2 ∧ m.2 ≤ (x.ty und m).2.2 ∧ (x.ty und m).2.2 ≤ m.2 + x.sz ∧ inT (x.ty und m).2.2 (x.ty und m).1 ∧ (x.ty und m).1.size ≤ 2 * x.sz ∧ (x.ty und m).2.1.length ≤ m.1.length + x.sz
  | .v i, und, m, hc, hu, hK, hn, hm => by
    have hc : i < und.length := hc
    obtain ⟨t, ht⟩ := get_lt (show und.length - 1 - i < und.length by omega)
    have e : und.getD (und.length - 1 - i) Tm.nil = t := by rw [List.getD_eq_getElem?_getD, ht]; rfl
    have := hu t (mem_of_get ht)
    simp only [UL.ty, e, UL.sz]
    exact ⟨hm, by omega, by omega, this.1, by omega, by omega⟩
  | .l b, und, m, hc, hu, hK, hn, hm => by
    simp only [UL.sz] at hK hn ⊢
    have hv : inT (m.2 + 1) (tvar (m.2 + 1)) := inT_var (by omega) (by omega) (by omega)
    obtain ⟨h1, h2, h3, h4, h5, h6⟩ := ty_ok K b (und ++ [tvar (m.2 + 1)]) (m.1, m.2 + 1) (by rw [List.length_append]; exact hc) (fun t ht => by
      rcases List.mem_append.1 ht with ht | ht
      · exact ⟨(hu t ht).1.more (by simp), (hu t ht).2⟩
      · rw [List.mem_singleton] at ht
        subst ht
        exact ⟨hv, rfl⟩) (by omega) (by show m.2 + 1 + b.sz < _; omega) (TyOk.more (m := m.2) hm (by omega))
    simp only at h2 h3 h6
    simp only [UL.ty]
    refine ⟨h1, by omega, by omega, inT_arr (hv.more h2) h4, ?_, by omega⟩
    rw [arrT_size]
    have : (tvar (m.2 + 1)).size = 1 := rfl
    omega
  | .a f x, und, m, hc, hu, hK, hn, hm => by
    simp only [UL.sz] at hK hn ⊢
    obtain ⟨h1, h2, h3, h4, h5, h6⟩ := ty_ok K f und m hc.1 hu (by omega) (by omega) hm
    obtain ⟨k1, k2, k3, k4, k5, k6⟩ := ty_ok K x und (f.ty und m).2 hc.2 (fun t ht => ⟨(hu t ht).1.more h2, (hu t ht).2⟩) (by omega) (by omega) h1
    simp only [UL.ty]
    generalize hn' : (x.ty und (f.ty und m).2).2.2 = n' at *
    have hv : inT (n' + 1) (tvar (n' + 1)) := inT_var (by omega) (by omega) (by omega)
    have hv1 : (tvar (n' + 1)).size = 1 := rfl
    refine ⟨⟨fun p hp => ?_⟩, by omega, by omega, hv, by omega, by rw [List.length_append, List.length_singleton]; omega⟩
    rcases List.mem_append.1 hp with hp | hp
    · have := k1.eqs p hp
      rw [hn'] at this
      exact ⟨⟨this.1.1.more (by simp), this.1.2⟩, this.2.1.more (by simp), this.2.2⟩
    · rw [List.mem_singleton] at hp
      subst hp
      refine ⟨⟨h4.more (by simp only; omega), by simp only; omega⟩, inT_arr (k4.more (by simp)) hv, ?_⟩
      simp only
      rw [arrT_size]
      omega
def BT.cs : BT → BT → (Nat → Option BT) → Option (Nat → Option BT)
  | .b n, t, env => match env n with
    | some x => if x = t then some env else none
    | none => some fun i => if i = n then some t else env i
  | .a x y, .a x' y', env => match x.cs x' env with
    | some e => y.cs y' e
    | none => none
  | .a _ _, .b _, _ => none
end Go.Proofs.YtehnjhkndbcmgaaDoor

namespace Go.Proofs.YtehnjhkndbcmgaaDoor
open Go Go.Proofs Go.Shelf
def Tryd.laysM171_ren : Go.Shelf.Ren := ⟨fun | 171 => 39 | 243 => 46 | 246 => 53 | 283 => 65 | 284 => 66 | 285 => 67 | 286 => 68 | 129 => 63 | 317 => 74 | 318 => 75 | 319 => 76 | 320 => 77 | 337 => 79 | 338 => 80 | n => n, fun | 3 => 3 | 9 => 9 | 2 => 2 | 4 => 4 | 171 => 119 | 0 => 0 | 53 => 116 | 37 => 81 | 5 => 5 | 173 => 121 | 212 => 131 | 51 => 114 | 20 => 20 | 213 => 132 | 46 => 102 | 232 => 137 | 233 => 138 | n => n, fun | 17 => 1 | 18 => 2 | 19 => 3 | n => n⟩
theorem Tryd.laysM171 : Go.Proofs.LaysM.n171 Tryd.prog Tryd.laysM171_ren := {
  mixed := by kernel_rfl
  f129 := Tryd.func63.trans (congrArg some (by kernel_rfl))
  f171 := Tryd.func39.trans (congrArg some (by kernel_rfl))
  f243 := Tryd.func46.trans (congrArg some (by kernel_rfl))
  f246 := Tryd.func53.trans (congrArg some (by kernel_rfl))
  f283 := Tryd.func65.trans (congrArg some (by kernel_rfl))
  f284 := Tryd.func66.trans (congrArg some (by kernel_rfl))
  f285 := Tryd.func67.trans (congrArg some (by kernel_rfl))
  f286 := Tryd.func68.trans (congrArg some (by kernel_rfl))
  f317 := Tryd.func74.trans (congrArg some (by kernel_rfl))
  f318 := Tryd.func75.trans (congrArg some (by kernel_rfl))
  f319 := Tryd.func76.trans (congrArg some (by kernel_rfl))
  f320 := Tryd.func77.trans (congrArg some (by kernel_rfl))
  f337 := Tryd.func79.trans (congrArg some (by kernel_rfl))
  f338 := Tryd.func80.trans (congrArg some (by kernel_rfl))
  t0 := Tryd.underlying0
  a0 := Tryd.isAgg0
  z0 := Tryd.sizeOf0
  v0 := Tryd.zeroValue0
  t2 := Tryd.underlying2
  a2 := Tryd.isAgg2
  z2 := Tryd.sizeOf2
  v2 := Tryd.zeroValue2
  t3 := Tryd.underlying3
  a3 := Tryd.isAgg3
  z3 := Tryd.sizeOf3
  v3 := Tryd.zeroValue3
  t4 := Tryd.underlying4
  a4 := Tryd.isAgg4
  z4 := Tryd.sizeOf4
  v4 := Tryd.zeroValue4
  t5 := Tryd.underlying5
  a5 := Tryd.isAgg5
  z5 := Tryd.sizeOf5
  v5 := Tryd.zeroValue5
  t9 := Tryd.underlying9
  a9 := Tryd.isAgg9
  z9 := Tryd.sizeOf9
  v9 := Tryd.zeroValue9
  t20 := Tryd.underlying20
  a20 := Tryd.isAgg20
  z20 := Tryd.sizeOf20
  v20 := Tryd.zeroValue20
  t37 := Tryd.underlying81
  a37 := Tryd.isAgg81
  z37 := Tryd.sizeOf81
  v37 := Tryd.zeroValue81
  t46 := Tryd.underlying102
  a46 := Tryd.isAgg102
  z46 := Tryd.sizeOf102
  v46 := Tryd.zeroValue102
  t51 := Tryd.underlying114
  a51 := Tryd.isAgg114
  z51 := Tryd.sizeOf114
  v51 := Tryd.zeroValue114
  t53 := Tryd.underlying116
  a53 := Tryd.isAgg116
  z53 := Tryd.sizeOf116
  v53 := Tryd.zeroValue116
  t171 := Tryd.underlying119
  a171 := Tryd.isAgg119
  z171 := Tryd.sizeOf119
  v171 := Tryd.zeroValue119
  t173 := Tryd.underlying121
  a173 := Tryd.isAgg121
  z173 := Tryd.sizeOf121
  v173 := Tryd.zeroValue121
  t212 := Tryd.underlying131
  a212 := Tryd.isAgg131
  z212 := Tryd.sizeOf131
  v212 := Tryd.zeroValue131
  t213 := Tryd.underlying132
  a213 := Tryd.isAgg132
  z213 := Tryd.sizeOf132
  t232 := Tryd.underlying137
  a232 := Tryd.isAgg137
  z232 := Tryd.sizeOf137
  v232 := Tryd.zeroValue137
  t233 := Tryd.underlying138
  a233 := Tryd.isAgg138
  z233 := Tryd.sizeOf138
  v233 := Tryd.zeroValue138
  g17 := by kernel_rfl
  g18 := by kernel_rfl
  g19 := by kernel_rfl
  i0 := by kernel_rfl
  i2 := by kernel_rfl
  i3 := by kernel_rfl
  i4 := by kernel_rfl
  i5 := by kernel_rfl
  i9 := by kernel_rfl
  i20 := by kernel_rfl
  i37 := by kernel_rfl
  i46 := by kernel_rfl
  i51 := by kernel_rfl
  i53 := by kernel_rfl
  i171 := by kernel_rfl
  i173 := by kernel_rfl
  i212 := by kernel_rfl
  i232 := by kernel_rfl
  i233 := by kernel_rfl
  m17 := by kernel_rfl
  m18 := by kernel_rfl
  m19 := by kernel_rfl }
def Tryd.sortBd_ren : Go.Shelf.Ren := ⟨fun | 6 => 40 | 15 => 48 | 14 => 47 | 28 => 62 | 29 => 63 | 20 => 54 | 21 => 55 | 22 => 56 | 23 => 57 | 24 => 58 | 25 => 59 | 26 => 60 | 27 => 61 | 46 => 69 | 47 => 70 | 48 => 71 | 49 => 72 | 50 => 73 | 57 => 78 | n => n, fun | 22 => 52 | 24 => 72 | 25 => 91 | 3 => 3 | 39 => 102 | 0 => 0 | 53 => 114 | 55 => 116 | 4 => 4 | 46 => 108 | 45 => 107 | 50 => 78 | 5 => 5 | 9 => 9 | 66 => 123 | 70 => 127 | 76 => 134 | 77 => 135 | n => n, fun | n => n⟩
theorem Tryd.sortBd : Go.Proofs.SlLaysF0.n6 Tryd.prog Tryd.sortBd_ren := {
  mixed := by kernel_rfl
  f6 := ⟨Tryd.f40.name, by decide, Tryd.func40.trans (congrArg some (by kernel_rfl))⟩
  f14 := ⟨Tryd.f47.name, by decide, Tryd.func47.trans (congrArg some (by kernel_rfl))⟩
  f15 := Tryd.func48.trans (congrArg some (by kernel_rfl))
  f20 := ⟨Tryd.f54.name, by decide, Tryd.func54.trans (congrArg some (by kernel_rfl))⟩
  f21 := ⟨Tryd.f55.name, by decide, Tryd.func55.trans (congrArg some (by kernel_rfl))⟩
  f22 := ⟨Tryd.f56.name, by decide, Tryd.func56.trans (congrArg some (by kernel_rfl))⟩
  f23 := ⟨Tryd.f57.name, by decide, Tryd.func57.trans (congrArg some (by kernel_rfl))⟩
  f24 := ⟨Tryd.f58.name, by decide, Tryd.func58.trans (congrArg some (by kernel_rfl))⟩
  f25 := ⟨Tryd.f59.name, by decide, Tryd.func59.trans (congrArg some (by kernel_rfl))⟩
  f26 := ⟨Tryd.f60.name, by decide, Tryd.func60.trans (congrArg some (by kernel_rfl))⟩
  f27 := ⟨Tryd.f61.name, by decide, Tryd.func61.trans (congrArg some (by kernel_rfl))⟩
  f28 := Tryd.func62.trans (congrArg some (by kernel_rfl))
  f29 := Tryd.func63.trans (congrArg some (by kernel_rfl))
  f46 := ⟨Tryd.f69.name, by decide, Tryd.func69.trans (congrArg some (by kernel_rfl))⟩
  f47 := Tryd.func70.trans (congrArg some (by kernel_rfl))
  f48 := Tryd.func71.trans (congrArg some (by kernel_rfl))
  f49 := ⟨Tryd.f72.name, by decide, Tryd.func72.trans (congrArg some (by kernel_rfl))⟩
  f50 := ⟨Tryd.f73.name, by decide, Tryd.func73.trans (congrArg some (by kernel_rfl))⟩
  f57 := ⟨Tryd.f78.name, by decide, Tryd.func78.trans (congrArg some (by kernel_rfl))⟩
  t0 := Tryd.underlying0
  a0 := Tryd.isAgg0
  z0 := Tryd.sizeOf0
  v0 := Tryd.zeroValue0
  t3 := Tryd.underlying3
  a3 := Tryd.isAgg3
  z3 := Tryd.sizeOf3
  v3 := Tryd.zeroValue3
  t4 := Tryd.underlying4
  a4 := Tryd.isAgg4
  z4 := Tryd.sizeOf4
  v4 := Tryd.zeroValue4
  t5 := Tryd.underlying5
  a5 := Tryd.isAgg5
  z5 := Tryd.sizeOf5
  v5 := Tryd.zeroValue5
  t9 := Tryd.underlying9
  a9 := Tryd.isAgg9
  z9 := Tryd.sizeOf9
  v9 := Tryd.zeroValue9
  t22 := Tryd.underlying52
  a22 := Tryd.isAgg52
  z22 := Tryd.sizeOf52
  v22 := Tryd.zeroValue52
  t25 := Tryd.underlying91
  a25 := Tryd.isAgg91
  z25 := Tryd.sizeOf91
  v25 := Tryd.zeroValue91
  t39 := Tryd.underlying102
  a39 := Tryd.isAgg102
  z39 := Tryd.sizeOf102
  v39 := Tryd.zeroValue102
  t45 := Tryd.underlying107
  a45 := Tryd.isAgg107
  z45 := Tryd.sizeOf107
  v45 := Tryd.zeroValue107
  t46 := Tryd.underlying108
  a46 := Tryd.isAgg108
  z46 := Tryd.sizeOf108
  v46 := Tryd.zeroValue108
  t50 := Tryd.underlying78
  a50 := Tryd.isAgg78
  z50 := Tryd.sizeOf78
  v50 := Tryd.zeroValue78
  t53 := Tryd.underlying114
  a53 := Tryd.isAgg114
  z53 := Tryd.sizeOf114
  v53 := Tryd.zeroValue114
  t55 := Tryd.underlying116
  a55 := Tryd.isAgg116
  z55 := Tryd.sizeOf116
  v55 := Tryd.zeroValue116
  t66 := Tryd.underlying123
  a66 := Tryd.isAgg123
  z66 := Tryd.sizeOf123
  v66 := Tryd.zeroValue123
  t70 := Tryd.underlying127
  a70 := Tryd.isAgg127
  z70 := Tryd.sizeOf127
  v70 := Tryd.zeroValue127
  t76 := Tryd.underlying134
  a76 := Tryd.isAgg134
  z76 := Tryd.sizeOf134
  v76 := Tryd.zeroValue134
  t77 := Tryd.underlying135
  a77 := Tryd.isAgg135
  z77 := Tryd.sizeOf135
  v77 := Tryd.zeroValue135 }
end Go.Proofs.YtehnjhkndbcmgaaDoor

namespace Go.Proofs.YtehnjhkndbcmgaaDoor
open Go Go.RowKit
set_option maxRecDepth 100000
end Go.Proofs.YtehnjhkndbcmgaaDoor

namespace Go.Proofs.YtehnjhkndbcmgaaDoor
open Go Go.RowKit
set_option linter.unusedVariables false
set_option linter.unusedSimpArgs false
set_option maxHeartbeats 800000
end Go.Proofs.YtehnjhkndbcmgaaDoor

namespace Go.Proofs.YtehnjhkndbcmgaaDoor
open Go Go.RowKit
set_option maxRecDepth 100000
end Go.Proofs.YtehnjhkndbcmgaaDoor

namespace Go.Proofs.YtehnjhkndbcmgaaDoor
open Go Go.RowKit
set_option linter.unusedVariables false
set_option linter.unusedSimpArgs false
set_option maxHeartbeats 1000000
theorem one_arg {σ : Sto} {vs : List Value} {x : AV} (h : All2 (VRep σ noS noH) vs [x]) : ∃ v, vs = [v] ∧ VRep σ noS noH v x := by
  cases h with
  | cons h1 h2 =>
    cases h2
    exact ⟨_, rfl, h1⟩
theorem itoa_a (n : Nat) (hn : n < 1000000) : ACalls Tryd.prog 39 [aInt n] (aStr (decS n)) := by
  intro σ w vs hG hF hv
  obtain ⟨v, rfl, h1⟩ := one_arg hv
  obtain ⟨rfl, hin⟩ := vrep_int h1
  have ht : Lib.TabIs Tryd.prog w "internal/strconv.uint64pow10" .u64 Lib.pow10Tab := hG.ints hF (g := 1) (by kernel_rfl) (by kernel_rfl)
  refine (Any.strconv_Itoa Tryd.laysM171 n (by omega) (by omega) w ht).mono fun e w' ⟨he, k, os, hw⟩ => ?_
  have hb : Below w.heap.size w w' := by
    rw [hw]
    exact Lib.below_grow _ _ (Nat.le_refl _) _ _
  have hd : (⟨(Lib.itoa (n : Int)).toArray⟩ : ByteArray) = decS n := by rw [Lib.itoa_nonneg]; rfl
  rw [hd] at he
  refine ⟨_, σ, he, .one (.st (.str ?_)), hF.below hb, Ext.refl _ _, hb⟩
  have := decS_size_le hn
  rw [maxLen_eq]
  omega
end Go.Proofs.YtehnjhkndbcmgaaDoor

namespace Go.Proofs.YtehnjhkndbcmgaaDoor
open Go Go.RowKit
set_option maxRecDepth 100000
def ir_lambda_within : IR :=
  (.seq (.ops [.i 2 (.box 25 (.t 0)), .i 4 (.mov (.n 0))]) (.seq (.ops [.i 7 (.mov (.t 1)), .i 8 (.bin .sub (.t 7) (.n 1)), .i 1 (.mov (.t 8))]) (.seq (.seq (.ops [.i 9 (.fieldAddr 2 (.t 2)), .i 10 (.load false 1 (.t 9)), .i 11 (.len false (.t 10)), .i 12 (.mov (.n 0))]) (.block 0 (.loop (.seq (.ops [.i 13 (.bin .lss (.t 12) (.t 11))]) (.seq (.cond (.t 13) .skip (.exit 0)) (.seq (.block 1 (.seq (.ops [.i 14 (.indexAddr 3 (.t 10) (.t 12)), .i 15 (.load true 3 (.t 14)), .i 6 (.alloc 25 [.st (.int .i64 0), .st (.int .i64 0), .full []]), .mk none none (.store 3 (.t 6) (.t 15)) .no]) (.seq (.seq (.ops [.i 16 (.mov (.t 1)), .i 17 (.bin .lss (.t 16) (.n 0))]) (.cond (.t 17) (.exit 0) .skip)) (.ops [.i 18 (.load true 3 (.t 6)), .i 19 (.mov (.t 1)), .i 20 (.call 36 [.t 18, .t 19]), .i 1 (.mov (.t 20))])))) (.ops [.i 21 (.bin .add (.t 12) (.n 1)), .i 12 (.mov (.t 21))]))))))) (.seq (.ops [.i 22 (.mov (.t 1)), .i 4 (.mov (.t 22))]) .ret))))
theorem tr_lambda_within : trCode Tryd.prog 23 [] (Tryd.f36.body.getD .skip) = some ir_lambda_within := by kernel_rfl
theorem ac_lambda_within {xs : List AV} {r : AV} (hn : xs.length ≤ 23) (h : ∀ C : Ctx, C.n = 23 → IWP Tryd.prog C [] ir_lambda_within (FinQ [.t 4] r) (AS.start xs)) : ACalls Tryd.prog 36 xs r :=
  acalls_of Tryd.func36 rfl tr_lambda_within rfl hn h
def ir_lambda_check : IR :=
  (.seq (.ops [.i 3 (.box 25 (.t 0)), .i 6 (.mov (.n 0))]) (.seq (.seq (.ops [.i 11 (.fieldAddr 0 (.t 3)), .i 12 (.load false 1 (.t 11)), .i 13 (.bin .lss (.t 12) (.n 1)), .i 14 (.mov (.t 13)), .mk (some 15) (some (14, false)) (.fieldAddr 0 (.t 3)) .no, .mk (some 16) (some (14, false)) (.load false 1 (.t 15)) .no, .mk (some 17) (some (14, false)) (.bin .gtr (.t 16) (.n 5)) .no, .i 18 (.pick (.t 14) (.c (.one (.st (.bool true)))) (.t 17)), .i 19 (.mov (.t 18)), .mk (some 20) (some (19, false)) (.fieldAddr 2 (.t 3)) .no, .mk (some 21) (some (19, false)) (.load false 1 (.t 20)) .no, .mk (some 22) (some (19, false)) (.len false (.t 21)) .no, .mk (some 23) (some (19, false)) (.fieldAddr 0 (.t 3)) .no, .mk (some 24) (some (19, false)) (.load false 1 (.t 23)) .no, .mk (some 25) (some (19, false)) (.indexArr 6 1 (.c (.one (.eptr [.int .i64 0, .int .i64 0, .int .i64 1, .int .i64 2, .int .i64 0, .int .i64 0]))) (.t 24)) .no, .mk (some 26) (some (19, false)) (.load false 1 (.t 25)) .no, .mk (some 27) (some (19, false)) (.bin .neq (.t 22) (.t 26)) .no, .i 28 (.pick (.t 19) (.c (.one (.st (.bool true)))) (.t 27))]) (.cond (.t 28) (.seq (.ops [.i 6 (.mov (.n 2))]) .ret) .skip)) (.seq (.ops [.i 7 (.mov (.n 1))]) (.seq (.seq (.ops [.i 29 (.fieldAddr 0 (.t 3)), .i 30 (.load false 1 (.t 29))]) (.block 0 (.seq (.ops [.i 32 (.bin .eql (.t 30) (.n 1)), .i 31 (.mov (.t 32))]) (.cond (.t 31) (.ops [.i 33 (.mov (.t 1)), .i 7 (.mov (.t 33))]) (.seq (.ops [.i 35 (.bin .eql (.t 30) (.n 4)), .i 34 (.mov (.t 35))]) (.cond (.t 34) (.ops [.i 7 (.mov (.n 40))]) (.seq (.ops [.i 37 (.bin .eql (.t 30) (.n 5)), .i 36 (.mov (.t 37))]) (.cond (.t 36) (.ops [.i 38 (.mov (.t 2)), .i 7 (.mov (.t 38))]) .skip)))))))) (.seq (.seq (.ops [.i 39 (.fieldAddr 1 (.t 3)), .i 40 (.load false 1 (.t 39)), .i 41 (.bin .lss (.t 40) (.n 0)), .i 42 (.mov (.t 41)), .mk (some 43) (some (42, false)) (.fieldAddr 1 (.t 3)) .no, .mk (some 44) (some (42, false)) (.load false 1 (.t 43)) .no, .mk (some 45) (some (42, false)) (.mov (.t 7)) .no, .mk (some 46) (some (42, false)) (.bin .geq (.t 44) (.t 45)) .no, .i 47 (.pick (.t 42) (.c (.one (.st (.bool true)))) (.t 46))]) (.cond (.t 47) (.seq (.ops [.i 6 (.mov (.n 15))]) .ret) .skip)) (.seq (.seq (.ops [.i 48 (.fieldAddr 0 (.t 3)), .i 49 (.load false 1 (.t 48)), .i 50 (.bin .eql (.t 49) (.n 2))]) (.cond (.t 50) (.ops [.i 51 (.mov (.t 1)), .i 52 (.bin .add (.t 51) (.n 1)), .i 1 (.mov (.t 52))]) .skip)) (.seq (.seq (.ops [.i 53 (.fieldAddr 2 (.t 3)), .i 54 (.load false 1 (.t 53)), .i 55 (.len false (.t 54)), .i 56 (.mov (.n 0))]) (.block 1 (.loop (.seq (.ops [.i 57 (.bin .lss (.t 56) (.t 55))]) (.seq (.cond (.t 57) .skip (.exit 1)) (.seq (.block 2 (.seq (.ops [.i 58 (.indexAddr 3 (.t 54) (.t 56)), .i 59 (.load true 3 (.t 58)), .i 9 (.alloc 25 [.st (.int .i64 0), .st (.int .i64 0), .full []]), .mk none none (.store 3 (.t 9) (.t 59)) .no]) (.seq (.ops [.i 60 (.load true 3 (.t 9)), .i 61 (.mov (.t 1)), .i 62 (.mov (.t 2)), .i 63 (.call 37 [.t 60, .t 61, .t 62]), .i 10 (.mov (.t 63))]) (.seq (.ops [.i 64 (.mov (.t 10)), .i 65 (.bin .neq (.t 64) (.n 0))]) (.cond (.t 65) (.seq (.ops [.i 66 (.mov (.t 10)), .i 6 (.mov (.t 66))]) .ret) .skip))))) (.ops [.i 67 (.bin .add (.t 56) (.n 1)), .i 56 (.mov (.t 67))]))))))) (.seq (.ops [.i 6 (.mov (.n 0))]) .ret))))))))
theorem tr_lambda_check : trCode Tryd.prog 68 [] (Tryd.f37.body.getD .skip) = some ir_lambda_check := by kernel_rfl
theorem ac_lambda_check {xs : List AV} {r : AV} (hn : xs.length ≤ 68) (h : ∀ C : Ctx, C.n = 68 → IWP Tryd.prog C [] ir_lambda_check (FinQ [.t 6] r) (AS.start xs)) : ACalls Tryd.prog 37 xs r :=
  acalls_of Tryd.func37 rfl tr_lambda_check rfl hn h
def ir_lambda_CheckWith : IR :=
  (.seq (.ops [.i 3 (.box 25 (.t 0)), .i 6 (.mov (.n 0))]) (.seq (.seq (.ops [.i 7 (.mov (.t 1)), .i 8 (.bin .lss (.t 7) (.n 0)), .i 9 (.mov (.t 8)), .mk (some 10) (some (9, false)) (.mov (.t 1)) .no, .mk (some 11) (some (9, false)) (.bin .gtr (.t 10) (.n 40)) .no, .i 12 (.pick (.t 9) (.c (.one (.st (.bool true)))) (.t 11))]) (.cond (.t 12) (.seq (.ops [.i 6 (.mov (.n 10))]) .ret) .skip)) (.seq (.seq (.ops [.i 13 (.load true 3 (.t 3)), .i 14 (.call 36 [.t 13, .n 200]), .i 15 (.bin .lss (.t 14) (.n 0))]) (.cond (.t 15) (.seq (.ops [.i 6 (.mov (.n 3))]) .ret) .skip)) (.seq (.ops [.i 16 (.load true 3 (.t 3)), .i 17 (.mov (.t 1)), .i 18 (.mov (.t 2)), .i 19 (.call 37 [.t 16, .t 17, .t 18]), .i 6 (.mov (.t 19))]) .ret))))
theorem tr_lambda_CheckWith : trCode Tryd.prog 20 [] (Tryd.f22.body.getD .skip) = some ir_lambda_CheckWith := by kernel_rfl
theorem ac_lambda_CheckWith {xs : List AV} {r : AV} (hn : xs.length ≤ 20) (h : ∀ C : Ctx, C.n = 20 → IWP Tryd.prog C [] ir_lambda_CheckWith (FinQ [.t 6] r) (AS.start xs)) : ACalls Tryd.prog 22 xs r :=
  acalls_of Tryd.func22 rfl tr_lambda_CheckWith rfl hn h
def ir_lambda_Check : IR :=
  (.seq (.ops [.i 2 (.box 25 (.t 0)), .i 4 (.mov (.n 0))]) (.seq (.ops [.i 5 (.load true 3 (.t 2)), .i 6 (.mov (.t 1)), .i 7 (.call 22 [.t 5, .t 6, .n 0]), .i 4 (.mov (.t 7))]) .ret))
theorem tr_lambda_Check : trCode Tryd.prog 8 [] (Tryd.f12.body.getD .skip) = some ir_lambda_Check := by kernel_rfl
theorem ac_lambda_Check {xs : List AV} {r : AV} (hn : xs.length ≤ 8) (h : ∀ C : Ctx, C.n = 8 → IWP Tryd.prog C [] ir_lambda_Check (FinQ [.t 4] r) (AS.start xs)) : ACalls Tryd.prog 12 xs r :=
  acalls_of Tryd.func12 rfl tr_lambda_Check rfl hn h
def ir_R_Var : IR :=
  (.seq (.ops [.i 2 (.alloc 25 [.st (.int .i64 0), .st (.int .i64 0), .full []])]) (.seq (.ops [.i 3 (.mov (.t 0)), .i 4 (.build [.st (.int .i64 0), .st (.int .i64 0), .full []] [(0, 1, .n 1), (1, 1, .t 3)]), .mk none none (.store 3 (.t 2) (.t 4)) .no]) .ret))
theorem tr_R_Var : trCode Tryd.prog 5 [] (Tryd.f8.body.getD .skip) = some ir_R_Var := by kernel_rfl
theorem ac_R_Var {xs : List AV} {r : AV} (hn : xs.length ≤ 5) (h : ∀ C : Ctx, C.n = 5 → IWP Tryd.prog C [] ir_R_Var (FinQ [.cell 2 true 3] r) (AS.start xs)) : ACalls Tryd.prog 8 xs r :=
  acalls_of Tryd.func8 rfl tr_R_Var rfl hn h
end Go.Proofs.YtehnjhkndbcmgaaDoor

namespace Go.Proofs.YtehnjhkndbcmgaaDoor
open Go Go.RowKit
set_option linter.unusedVariables false
set_option linter.unusedSimpArgs false
set_option maxHeartbeats 400000
theorem lwithin_a (t : Lm) (m : Int) (h0 : 0 ≤ m) (h1 : m ≤ 9223372036854775807) : ACalls Tryd.prog 36 [aLm t, aInt m] (aInt (lessBy t.size m)) := by
  induction h : SizeOf.sizeOf t using Nat.strongRecOn generalizing t m with
  | _ N ih =>
  subst h
  have hs := Lm.size_eq t
  refine ac_lambda_within (Nat.le_of_ble_eq_true rfl) fun C hC => ?_
  unfold ir_lambda_within
  refine IWP.learn 0 (by omega) fun hkn => ?_
  have hkn := (known_lm hkn).2.2
  repeat' (first | (with_reducible first | refine W ?_ | refine Wk (by decide) ?_) | ((with_reducible first | refine Wo (fun K hK => ?_) | refine Wq ?_ | refine Wr ?_); (try simp only [go_sem, fN, ↓gI, ↓pI, seval, eT, iR]); (repeat with_reducible refine And.intro (by first | omega | (with_reducible exact lens) | (simp [maxLen_eq] <;> omega)) ?_); (try (with_reducible refine hK _ ?_; clear hK K))))
  refine IWP.loopD [6] (fun n s => ∃ k, k ≤ t.subs.length ∧ n = t.subs.length - k ∧ s.env 1 = aInt (lessBy (1 + Lm.sizes (t.subs.take k)) m) ∧ s.env 10 = .one (.st (.list (t.subs.map encL))) ∧ s.env 11 = aInt t.subs.length ∧ s.env 12 = aInt k ∧ s.S 6 = none) t.subs.length ⟨0, Nat.zero_le _, rfl, by
    simp only [go_sem, fN, ↓gI, ↓pI, seval, eT, iR]
    rw [lessBy]
    have z0 : Lm.sizes [] = 0 := rfl
    congr 3
    split <;> omega, rfl, rfl, rfl, rfl⟩ ?_
  rintro n ⟨env, S⟩ ⟨k, hk, rfl, e1, e10, e11, e12, s6⟩
  simp only at e1 e10 e11 e12 s6
  repeat' (first | (with_reducible first | refine W ?_ | refine Wk (by decide) ?_) | ((with_reducible first | refine Wo (fun K hK => ?_) | refine Wq ?_ | refine Wr ?_); (try simp only [go_sem, fN, ↓gI, ↓pI, seval, eT, iR, e1, e10, e11, e12, s6]); (repeat with_reducible refine And.intro (by first | omega | (with_reducible exact lens) | (simp [maxLen_eq] <;> omega)) ?_); (try (with_reducible refine hK _ ?_; clear hK K))))
  with_reducible refine Wp ?_
  simp only [go_sem, fN, ↓gI, ↓pI, seval, true_implies, false_implies, implies_true, dT, dF, nL, e1, e10, e11, e12, s6]
  (try with_reducible refine iC ?_)
  refine ⟨fun hlt => ?_, fun hge => ?_⟩
  · obtain ⟨a, ha⟩ := get_lt (show k < t.subs.length by omega)
    have z1 := Lm.sizes_take ha
    have z2 := Lm.sizes_take_le t.subs (k + 1)
    have z3 := Lm.length_le t.subs
    have z4 := lessBy_le (1 + Lm.sizes (t.subs.take k)) m h0
    repeat' (first | (with_reducible first | refine W ?_ | refine Wk (by decide) ?_) | ((with_reducible first | refine Wo (fun K hK => ?_) | refine Wq ?_ | refine Wr ?_); (try simp only [go_sem, fN, ↓gI, ↓pI, seval, eT, iR, e1, e10, e11, e12, s6, ha]); (repeat with_reducible refine And.intro (by first | omega | (with_reducible exact lens) | (simp [maxLen_eq] <;> omega)) ?_); (try (with_reducible refine hK _ ?_; clear hK K))))
    with_reducible refine Wp ?_
    simp only [go_sem, fN, ↓gI, ↓pI, seval, true_implies, false_implies, implies_true, dT, dF, nL, e1]
    (try with_reducible refine iC ?_)
    refine ⟨fun hb => ?_, fun hb => ?_⟩
    · repeat' (first | (with_reducible first | refine W ?_ | refine Wk (by decide) ?_) | ((with_reducible first | refine Wo (fun K hK => ?_) | refine Wq ?_ | refine Wr ?_); (try simp only [go_sem, fN, ↓gI, ↓pI, seval, eT, iR, e1]); (repeat with_reducible refine And.intro (by first | omega | (with_reducible exact lens) | (simp [maxLen_eq] <;> omega)) ?_); (try (with_reducible refine hK _ ?_; clear hK K))))
      simp only [go_sem, fN, ↓gI, ↓pI, seval, FinQ, AS.result, resAll, resOne, tupV, e1]
      rw [lessBy_neg hb (show _ ≤ t.size by rw [hs]; omega)]
    · repeat' (first | (with_reducible first | refine W ?_ | refine Wk (by decide) ?_) | refine Cg _ (ih _ (Lm.lt_of_sub (mem_of_get ha)) a _ (by omega) (by omega) rfl) ?_ | ((with_reducible first | refine Wo (fun K hK => ?_) | refine Wq ?_ | refine Wr ?_); (try simp only [go_sem, fN, ↓gI, ↓pI, seval, eT, iR, e1, e10, e11, e12, s6, ha]); (repeat with_reducible refine And.intro (by first | omega | (with_reducible exact lens) | (simp [maxLen_eq] <;> omega)) ?_); (try (with_reducible refine hK _ ?_; clear hK K))))
      refine then_normal ⟨t.subs.length - (k + 1), by omega, k + 1, by omega, rfl, ?_⟩
      simp only [go_sem, fN, ↓gI, ↓pI, seval, AS.drop, dropS, AC.clears, AC.clear, AC.highs, AC.high, Bool.not_false, Bool.true_and, Bool.and_self, AV.purge, AV.purges, AC.purge, ABlk.purge, List.contains_cons, List.contains_nil, Nat.reduceBEq, Bool.or_self, Bool.or_false, Bool.false_or, Bool.or_true, eT, iR, e1, e10, e11, e12, s6]
      exact ⟨by rw [lessBy_step (by omega), z1]; congr 4; omega, by congr 3⟩
  · repeat' (first | (with_reducible first | refine W ?_ | refine Wk (by decide) ?_) | ((with_reducible first | refine Wo (fun K hK => ?_) | refine Wq ?_ | refine Wr ?_); (try simp only [go_sem, fN, ↓gI, ↓pI, seval, eT, iR, e1]); (repeat with_reducible refine And.intro (by first | omega | (with_reducible exact lens) | (simp [maxLen_eq] <;> omega)) ?_); (try (with_reducible refine hK _ ?_; clear hK K))))
    simp only [go_sem, fN, ↓gI, ↓pI, seval, FinQ, AS.result, resAll, resOne, tupV, e1]
    rw [List.take_of_length_le (by omega), hs]
theorem kinds_of {k : Int} (h : 1 ≤ k ∧ k ≤ 5) : k = 1 ∨ k = 2 ∨ k = 3 ∨ k = 4 ∨ k = 5 := by omega
set_option maxHeartbeats 1000000 in
theorem lcheck_a (t : Lm) (u m : Int) (hu : 0 ≤ u) (hz : u + t.size ≤ 1000000000) : ACalls Tryd.prog 37 [aLm t, aInt u, aInt m] (aInt (t.chk m u)) := by
  induction h : SizeOf.sizeOf t using Nat.strongRecOn generalizing t u with
  | _ N ih =>
  subst h
  have hs := Lm.size_eq t
  have hlen := Lm.length_le t.subs
  refine ac_lambda_check (Nat.le_of_ble_eq_true rfl) fun C hC => ?_
  unfold ir_lambda_check
  by_cases hk : 1 ≤ t.kind ∧ t.kind ≤ 5
  case neg =>
    rw [Lm.chk_eq, if_neg (fun h => hk ⟨h.1, h.2.1⟩)]
    by_cases h1 : t.kind < 1
    · repeat' (first | (with_reducible first | refine W ?_ | refine Wk (by decide) ?_) | ((with_reducible first | refine Wo (fun K hK => ?_) | refine Wp ?_ | refine Wq ?_ | refine Wr ?_); (try simp only [go_sem, fN, ↓gI, ↓pI, seval, eT, iR, h1, dT, dF, nL]); (repeat with_reducible refine And.intro (by first | omega | (with_reducible exact lens) | (simp [maxLen_eq] <;> omega)) ?_); (try (with_reducible refine hK _ ?_; clear hK K)); (try with_reducible refine iC ?_)))
      simp only [go_sem, fN, ↓gI, ↓pI, seval, FinQ, AS.result, resAll, resOne, tupV]
    · have h5 : 5 < t.kind := by omega
      repeat' (first | (with_reducible first | refine W ?_ | refine Wk (by decide) ?_) | ((with_reducible first | refine Wo (fun K hK => ?_) | refine Wp ?_ | refine Wq ?_ | refine Wr ?_); (try simp only [go_sem, fN, ↓gI, ↓pI, seval, eT, iR, h1, h5, dT, dF, nL]); (repeat with_reducible refine And.intro (by first | omega | (with_reducible exact lens) | (simp [maxLen_eq] <;> omega)) ?_); (try (with_reducible refine hK _ ?_; clear hK K)); (try with_reducible refine iC ?_)))
      simp only [go_sem, fN, ↓gI, ↓pI, seval, FinQ, AS.result, resAll, resOne, tupV]
  case pos =>
  have hk5 := kinds_of hk
  have q1 : ¬ t.kind < 1 := by omega
  have q5 : ¬ 5 < t.kind := by omega
  by_cases hl : (t.subs.length : Int) = nSubs t.kind
  case neg =>
    rw [Lm.chk_eq, if_neg (fun h => hl h.2.2)]
    rcases hk5 with hk5 | hk5 | hk5 | hk5 | hk5
    all_goals
      simp only [hk5, nSubs, Int.reduceEq, ↓reduceIte] at hl
      repeat' (first | (with_reducible first | refine W ?_ | refine Wk (by decide) ?_) | ((with_reducible first | refine Wo (fun K hK => ?_) | refine Wp ?_ | refine Wq ?_ | refine Wr ?_); (try simp only [go_sem, fN, ↓gI, ↓pI, seval, eT, iR, hk5, hl, dT, dF, nL]); (repeat with_reducible refine And.intro (by first | omega | (with_reducible exact lens) | (simp [maxLen_eq] <;> omega)) ?_); (try (with_reducible refine hK _ ?_; clear hK K)); (try with_reducible refine iC ?_)))
      simp only [go_sem, fN, ↓gI, ↓pI, seval, FinQ, AS.result, resAll, resOne, tupV]
  case pos =>
  by_cases h0 : t.idx < 0
  case pos =>
    rw [Lm.chk_eq, if_pos ⟨hk.1, hk.2, hl⟩, if_neg (fun h => by omega)]
    rcases hk5 with hk5 | hk5 | hk5 | hk5 | hk5
    all_goals
      simp only [hk5, nSubs, Int.reduceEq, ↓reduceIte] at hl
      repeat' (first | (with_reducible first | refine W ?_ | refine Wk (by decide) ?_) | ((with_reducible first | refine Wo (fun K hK => ?_) | refine Wp ?_ | refine Wq ?_ | refine Wr ?_); (try simp only [go_sem, fN, ↓gI, ↓pI, seval, eT, iR, hk5, hl, h0, dT, dF, nL]); (repeat with_reducible refine And.intro (by first | omega | (with_reducible exact lens) | (simp [maxLen_eq] <;> omega)) ?_); (try (with_reducible refine hK _ ?_; clear hK K)); (try with_reducible refine iC ?_)))
      simp only [go_sem, fN, ↓gI, ↓pI, seval, FinQ, AS.result, resAll, resOne, tupV]
  case neg =>
  by_cases hm : mostIdx t.kind u m ≤ t.idx
  case pos =>
    rw [Lm.chk_eq, if_pos ⟨hk.1, hk.2, hl⟩, if_neg (fun h => by omega)]
    rcases hk5 with hk5 | hk5 | hk5 | hk5 | hk5
    all_goals
      simp only [hk5, nSubs, mostIdx, Int.reduceEq, ↓reduceIte] at hl hm
      repeat' (first | (with_reducible first | refine W ?_ | refine Wk (by decide) ?_) | ((with_reducible first | refine Wo (fun K hK => ?_) | refine Wp ?_ | refine Wq ?_ | refine Wr ?_); (try simp only [go_sem, fN, ↓gI, ↓pI, seval, eT, iR, hk5, hl, h0, hm, dT, dF, nL]); (repeat with_reducible refine And.intro (by first | omega | (with_reducible exact lens) | (simp [maxLen_eq] <;> omega)) ?_); (try (with_reducible refine hK _ ?_; clear hK K)); (try with_reducible refine iC ?_)))
      simp only [go_sem, fN, ↓gI, ↓pI, seval, FinQ, AS.result, resAll, resOne, tupV]
  case neg =>
  rw [Lm.chk_eq, if_pos ⟨hk.1, hk.2, hl⟩, if_pos (by omega)]
  rcases hk5 with hk5 | hk5 | hk5 | hk5 | hk5
  all_goals
    simp only [hk5, nSubs, mostIdx, Int.reduceEq, ↓reduceIte] at hl hm
    repeat' (first | (with_reducible first | refine W ?_ | refine Wk (by decide) ?_) | ((with_reducible first | refine Wo (fun K hK => ?_) | refine Wp ?_ | refine Wq ?_ | refine Wr ?_); (try simp only [go_sem, fN, ↓gI, ↓pI, seval, eT, iR, hk5, hl, h0, hm, dT, dF, nL]); (repeat with_reducible refine And.intro (by first | omega | (with_reducible exact lens) | (simp [maxLen_eq] <;> omega)) ?_); (try (with_reducible refine hK _ ?_; clear hK K)); (try with_reducible refine iC ?_)))
    refine IWP.loopD [9] (fun n s => ∃ k, k ≤ t.subs.length ∧ n = t.subs.length - k ∧ Lm.chks m (t.subs.take k) (under t.kind u) = 0 ∧ s.env 1 = aInt (under t.kind u) ∧ s.env 2 = aInt m ∧ s.env 54 = .one (.st (.list (t.subs.map encL))) ∧ s.env 55 = aInt t.subs.length ∧ s.env 56 = aInt k ∧ s.S 9 = none) t.subs.length ⟨0, Nat.zero_le _, rfl, rfl, by simp only [hk5, under]; rfl, rfl, rfl, by simp only [go_sem, fN, ↓gI, ↓pI, seval, eT, iR, hl], rfl, rfl⟩ ?_
    rintro n ⟨env, S⟩ ⟨k, hk', rfl, hc, e1, e2, e54, e55, e56, s9⟩
    simp only at e1 e2 e54 e55 e56 s9
    by_cases hlt : (k : Int) < t.subs.length
    · obtain ⟨a, ha⟩ := get_lt (show k < t.subs.length by omega)
      have z3 := Lm.size_mem (mem_of_get ha)
      have hu2 : under t.kind u ≤ u + 1 ∧ 0 ≤ under t.kind u := by unfold under; split <;> omega
      repeat' (first | (with_reducible first | refine W ?_ | refine Wk (by decide) ?_) | ((with_reducible first | refine Wo (fun K hK => ?_) | refine Wp ?_ | refine Wq ?_ | refine Wr ?_); (try simp only [go_sem, fN, ↓gI, ↓pI, seval, eT, iR, e1, e2, e54, e55, e56, s9, ha, hlt, dT, dF, nL]); (repeat with_reducible refine And.intro (by first | omega | (with_reducible exact lens) | (simp [maxLen_eq] <;> omega)) ?_); (try (with_reducible refine hK _ ?_; clear hK K)); (try with_reducible refine iC ?_)))
      refine ⟨_, ih _ (Lm.lt_of_sub (mem_of_get ha)) a (under t.kind u) hu2.2 (by omega) rfl, ?_⟩
      by_cases hr : a.chk m (under t.kind u) = 0
      · repeat' (first | (with_reducible first | refine W ?_ | refine Wk (by decide) ?_) | ((with_reducible first | refine Wo (fun K hK => ?_) | refine Wp ?_ | refine Wq ?_ | refine Wr ?_); (try simp only [go_sem, fN, ↓gI, ↓pI, seval, eT, iR, e1, e2, e54, e55, e56, s9, hr, dT, dF, nL]); (repeat with_reducible refine And.intro (by first | omega | (with_reducible exact lens) | (simp [maxLen_eq] <;> omega)) ?_); (try (with_reducible refine hK _ ?_; clear hK K)); (try with_reducible refine iC ?_)))
        refine then_normal ⟨t.subs.length - (k + 1), by omega, k + 1, by omega, rfl, ?_⟩
        simp only [go_sem, fN, ↓gI, ↓pI, seval, AS.drop, dropS, AC.clears, AC.clear, AC.highs, AC.high, Bool.not_false, Bool.true_and, Bool.and_self, AV.purge, AV.purges, AC.purge, ABlk.purge, List.contains_cons, List.contains_nil, Nat.reduceBEq, Bool.or_self, Bool.or_false, Bool.false_or, Bool.or_true, eT, iR, e1, e2, e54, e55, e56, s9]
        exact ⟨by rw [Lm.chks_take ha hc, hr], by congr 3⟩
      · repeat' (first | (with_reducible first | refine W ?_ | refine Wk (by decide) ?_) | ((with_reducible first | refine Wo (fun K hK => ?_) | refine Wp ?_ | refine Wq ?_ | refine Wr ?_); (try simp only [go_sem, fN, ↓gI, ↓pI, seval, eT, iR, e1, e2, e54, e55, e56, s9, hr, dT, dF, nL]); (repeat with_reducible refine And.intro (by first | omega | (with_reducible exact lens) | (simp [maxLen_eq] <;> omega)) ?_); (try (with_reducible refine hK _ ?_; clear hK K)); (try with_reducible refine iC ?_)))
        simp only [go_sem, fN, ↓gI, ↓pI, seval, FinQ, AS.result, resAll, resOne, tupV]
        simp only [hk5] at hc hr ⊢
        rw [Lm.chks_bad (k := k + 1) (by rw [Lm.chks_take ha hc]; exact hr), Lm.chks_take ha hc]
    · repeat' (first | (with_reducible first | refine W ?_ | refine Wk (by decide) ?_) | ((with_reducible first | refine Wo (fun K hK => ?_) | refine Wp ?_ | refine Wq ?_ | refine Wr ?_); (try simp only [go_sem, fN, ↓gI, ↓pI, seval, eT, iR, e1, e2, e54, e55, e56, s9, hlt, dT, dF, nL]); (repeat with_reducible refine And.intro (by first | omega | (with_reducible exact lens) | (simp [maxLen_eq] <;> omega)) ?_); (try (with_reducible refine hK _ ?_; clear hK K)); (try with_reducible refine iC ?_)))
      simp only [go_sem, fN, ↓gI, ↓pI, seval, FinQ, AS.result, resAll, resOne, tupV]
      rw [List.take_of_length_le (by omega)] at hc
      simp only [hk5] at hc ⊢
      rw [hc]
theorem lessBy_neg_iff {s : Nat} {m : Int} (h : 0 ≤ m) : lessBy s m < 0 ↔ m < s := by
  unfold lessBy
  split <;> omega
theorem lcheckWith_a (t : Lm) (u m : Int) : ACalls Tryd.prog 22 [aLm t, aInt u, aInt m] (aInt (t.may m u)) := by
  refine ac_lambda_CheckWith (Nat.le_of_ble_eq_true rfl) fun C hC => ?_
  unfold ir_lambda_CheckWith
  unfold Lm.may
  by_cases h0 : u < 0
  · rw [if_pos (Or.inl h0)]
    repeat' (first | (with_reducible first | refine W ?_ | refine Wk (by decide) ?_) | ((with_reducible first | refine Wo (fun K hK => ?_) | refine Wp ?_ | refine Wq ?_ | refine Wr ?_); (try simp only [go_sem, fN, ↓gI, ↓pI, seval, eT, iR, h0, dT, dF, nL]); (repeat with_reducible refine And.intro (by first | omega | (with_reducible exact lens) | (simp [maxLen_eq] <;> omega)) ?_); (try (with_reducible refine hK _ ?_; clear hK K)); (try with_reducible refine iC ?_)))
    simp only [go_sem, fN, ↓gI, ↓pI, seval, FinQ, AS.result, resAll, resOne, tupV]
  by_cases h1 : 40 < u
  · rw [if_pos (Or.inr h1)]
    repeat' (first | (with_reducible first | refine W ?_ | refine Wk (by decide) ?_) | ((with_reducible first | refine Wo (fun K hK => ?_) | refine Wp ?_ | refine Wq ?_ | refine Wr ?_); (try simp only [go_sem, fN, ↓gI, ↓pI, seval, eT, iR, h0, h1, dT, dF, nL]); (repeat with_reducible refine And.intro (by first | omega | (with_reducible exact lens) | (simp [maxLen_eq] <;> omega)) ?_); (try (with_reducible refine hK _ ?_; clear hK K)); (try with_reducible refine iC ?_)))
    simp only [go_sem, fN, ↓gI, ↓pI, seval, FinQ, AS.result, resAll, resOne, tupV]
  rw [if_neg (by omega)]
  have hw := @lessBy_neg_iff t.size 200 (by decide)
  by_cases hz : 200 < t.size
  · have hz' := hw.2 (by omega)
    rw [if_pos hz]
    repeat' (first | (with_reducible first | refine W ?_ | refine Wk (by decide) ?_) | refine Cg _ (lwithin_a t 200 (by decide) (by decide)) ?_ | ((with_reducible first | refine Wo (fun K hK => ?_) | refine Wp ?_ | refine Wq ?_ | refine Wr ?_); (try simp only [go_sem, fN, ↓gI, ↓pI, seval, eT, iR, h0, h1, hz', dT, dF, nL]); (repeat with_reducible refine And.intro (by first | omega | (with_reducible exact lens) | (simp [maxLen_eq] <;> omega)) ?_); (try (with_reducible refine hK _ ?_; clear hK K)); (try with_reducible refine iC ?_)))
    simp only [go_sem, fN, ↓gI, ↓pI, seval, FinQ, AS.result, resAll, resOne, tupV]
  · have hz' : ¬ lessBy t.size 200 < 0 := fun h => hz (by have := hw.1 h; omega)
    rw [if_neg hz]
    repeat' (first | (with_reducible first | refine W ?_ | refine Wk (by decide) ?_) | refine Cg _ (lwithin_a t 200 (by decide) (by decide)) ?_ | refine Cg _ (lcheck_a t u m (by omega) (by omega)) ?_ | ((with_reducible first | refine Wo (fun K hK => ?_) | refine Wp ?_ | refine Wq ?_ | refine Wr ?_); (try simp only [go_sem, fN, ↓gI, ↓pI, seval, eT, iR, h0, h1, hz', dT, dF, nL]); (repeat with_reducible refine And.intro (by first | omega | (with_reducible exact lens) | (simp [maxLen_eq] <;> omega)) ?_); (try (with_reducible refine hK _ ?_; clear hK K)); (try with_reducible refine iC ?_)))
    simp only [go_sem, fN, ↓gI, ↓pI, seval, FinQ, AS.result, resAll, resOne, tupV]
theorem lCheck_a (t : Lm) (u : Int) : ACalls Tryd.prog 12 [aLm t, aInt u] (aInt (t.may 0 u)) := by
  refine ac_lambda_Check (Nat.le_of_ble_eq_true rfl) fun C hC => ?_
  unfold ir_lambda_Check
  repeat' (first | (with_reducible first | refine W ?_ | refine Wk (by decide) ?_) | refine Cg _ (lcheckWith_a t u 0) ?_ | ((with_reducible first | refine Wo (fun K hK => ?_) | refine Wp ?_ | refine Wq ?_ | refine Wr ?_); (try simp only [go_sem, fN, ↓gI, ↓pI, seval, eT, iR, dT, dF, nL]); (repeat with_reducible refine And.intro (by first | omega | (with_reducible exact lens) | (simp [maxLen_eq] <;> omega)) ?_); (try (with_reducible refine hK _ ?_; clear hK K)); (try with_reducible refine iC ?_)))
  simp only [go_sem, fN, ↓gI, ↓pI, seval, FinQ, AS.result, resAll, resOne, tupV]
end Go.Proofs.YtehnjhkndbcmgaaDoor
