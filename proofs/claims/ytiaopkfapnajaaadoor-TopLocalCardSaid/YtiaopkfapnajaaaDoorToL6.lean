/-
  Part 6 of the texts. Conditions: none.
-/
import Derived.Test.YtiaopkfapnajaaaDoorToL5
import Derived.Lib.ItoaNum
namespace Go.Proofs.YtiaopkfapnajaaaDoor
open Go Go.RowKit
set_option linter.unusedVariables false
def occ (x : ByteArray) (t : Tm) : Bool := t.knots.any fun k => decide (k.name = x)
theorem If (p : Tm → Bool) : ∀ xs : List Tm, (Tm.knotsL xs).any p = xs.any fun t => t.knots.any p
 | [] => rfl
 | t :: ts => by rw [Tm.knotsL, List.any_append, If p ts, List.any_cons]
theorem OO (x : ByteArray) (t : Tm) : occ x t = (decide (t.name = x) || t.args.any (occ x)) := by
 unfold occ
 rw [Tm.knots_eq, List.any_cons, If]
theorem IY {x : ByteArray} {t : Tm} : occ x t = true ↔ t.name = x ∨ ∃ a ∈ t.args, occ x a = true := by
 rw [OO, Bool.or_eq_true, decide_eq_true_eq, List.any_eq_true]
theorem Ly {x : ByteArray} {t a : Tm} (ha : a ∈ t.args) (h : occ x a = true) : occ x t = true := IY.2 (.inr ⟨a, ha, h⟩)
theorem Li {x : ByteArray} {t : Tm} (h : occ x t = false) : t.name ≠ x ∧ ∀ a ∈ t.args, occ x a = false := by
 rw [OO, Bool.or_eq_false_iff, decide_eq_false_iff_not, List.any_eq_false] at h
 exact ⟨h.1, fun a ha => by simpa using h.2 a ha⟩
def It (s : List Bd) (t : Tm) : Prop := ∀ b ∈ s, occ b.1 t = false
theorem T6 {s : List Bd} {t : Tm} (h : It s t) : t.on s = t := by
 induction hN : SizeOf.sizeOf t using Nat.strongRecOn generalizing t with
 | _ N ih =>
 subst hN
 have hl : lookup s t.name = none := D3 fun b hb e => (Li (h b hb)).1 e.symm
 rw [Tm.on_knot (.inl hl)]
 have hm : t.args.map (Tm.on s) = t.args := by
  conv => rhs; rw [← List.map_id t.args]
  exact List.map_congr_left fun a ha => ih _ (Tm.lt_of_arg ha) (fun b hb => (Li (h b hb)).2 a ha) rfl
 rw [hm]
 cases t; rfl
theorem OV {s : List Bd} {n : ByteArray} (h : lookup s n = none) : ∀ b ∈ s, b.1 ≠ n := by
 unfold lookup at h
 rw [Option.map_eq_none_iff, List.find?_eq_none] at h
 exact fun b hb e => h b hb (by simpa using e)
theorem Nw {s : List Bd} (hv : ∀ b ∈ s, AQ b.1 = true) {t : Tm} (hc : t.chk = 0) {y : ByteArray} (h : occ y (t.on s) = true) : (occ y t = true ∧ ∀ b ∈ s, b.1 ≠ y) ∨ ∃ b ∈ s, occ y b.2 = true := by
 induction hN : SizeOf.sizeOf t using Nat.strongRecOn generalizing t with
 | _ N ih =>
 subst hN
 obtain ⟨c1, c2⟩ := Tm.chk_args hc
 cases hl : lookup s t.name with
 | some x =>
  obtain ⟨b, hb, hbn, hbx⟩ := Cl hl
  rw [Tm.on_leaf hl (c1 (by rw [← hbn]; exact hv b hb)), ← hbx] at h
  exact .inr ⟨b, hb, h⟩
 | none =>
  rw [Tm.on_knot (.inl hl), IY] at h
  rcases h with h | ⟨a, ha, h⟩
  ·simp only [Tm.name_mk] at h
   refine .inl ⟨IY.2 (.inl h), fun b hb => ?_⟩
   rw [← h]
   exact OV hl b hb
  ·simp only [Tm.args_mk, List.mem_map] at ha
   obtain ⟨c, hc', rfl⟩ := ha
   rcases ih _ (Tm.lt_of_arg hc') (c2 c hc') h rfl with h | h
   ·exact .inl ⟨Ly hc' h.1, h.2⟩
   ·exact .inr h
theorem UN {t : Tm} (h : CE t = 0) (ha : ∀ a ∈ t.args, a.chk = 0) : t.chk = 0 := by
 rw [Tm.chk_eq, if_pos h]
 have key : ∀ {xs : List Tm}, (∀ a ∈ xs, a.chk = 0) → Tm.chkL xs = 0 := by
  intro xs
  induction xs with
  | nil => intro _; rfl
  | cons x xs ih => intro hx; simp only [Tm.chkL]; rw [if_pos (hx x (by simp))]; exact ih fun a ha => hx a (by simp [ha])
 exact key ha
theorem TS {t : Tm} (h : t.chk = 0) : CE t = 0 := by
 rw [Tm.chk_eq] at h
 by_cases h1 : CE t = 0
 ·exact h1
 ·rw [if_neg h1] at h; exact h
theorem Jf {s : List Bd} (hs : ∀ b ∈ s, b.2.chk = 0) {t : Tm} (hc : t.chk = 0) : (t.on s).chk = 0 := by
 induction hN : SizeOf.sizeOf t using Nat.strongRecOn generalizing t with
 | _ N ih =>
 subst hN
 obtain ⟨c1, c2⟩ := Tm.chk_args hc
 by_cases hleaf : (∃ x, lookup s t.name = some x) ∧ t.args = []
 ·obtain ⟨⟨x, hx⟩, h0⟩ := hleaf
  rw [Tm.on_leaf hx h0]
  obtain ⟨b, hb, _, rfl⟩ := Cl hx
  exact hs b hb
 ·have hon : t.on s = .mk t.name (t.args.map (Tm.on s)) := Tm.on_knot (by
   cases hl : lookup s t.name with
   | none => exact .inl rfl
   | some x => exact .inr fun h0 => hleaf ⟨⟨x, hl⟩, h0⟩)
  rw [hon]
  refine UN ?_ fun a ha => ?_
  ·have := TS hc
   unfold CE at this ⊢
   simpa only [Tm.name_mk, Tm.args_mk, List.length_map] using this
  ·simp only [Tm.args_mk, List.mem_map] at ha
   obtain ⟨c, hc', rfl⟩ := ha
   exact ih _ (Tm.lt_of_arg hc') (c2 c hc') rfl
inductive Um where
 | err (e : Int)
 | go (s : List Bd) (ps : List Pr)
def DX (s : List Bd) (x : ByteArray) (t : Tm) : Um :=
 if occ x t = true then .err 6 else if (s.all fun b => decide ((b.2.on [(x, t)]).size ≤ 2000)) = true then .go (BQ (s.map (fun b => (b.1, b.2.on [(x, t)])) ++ [(x, t)])) [] else .err 8
def CB (s : List Bd) (p : Pr) : Um :=
 if 2000 < (p.1.on s).size ∨ 2000 < (p.2.on s).size then .err 8
 else if AQ (p.1.on s).name = true ∧ (p.1.on s).name = (p.2.on s).name then .go s []
 else if AQ (p.1.on s).name = true then DX s (p.1.on s).name (p.2.on s)
 else if AQ (p.2.on s).name = true then DX s (p.2.on s).name (p.1.on s)
 else if (p.1.on s).name = (p.2.on s).name ∧ (p.1.on s).args.length = (p.2.on s).args.length then .go s ((p.1.on s).args.zip (p.2.on s).args)
 else .err 5
inductive Cq : Nat → List Bd → List Pr → List Bd × Int → Prop
 | nil {s} : Cq 0 s [] (s, 0)
 | err {s p l e} : CB s p = .err e → Cq 1 s (p :: l) ([], e)
 | go {s p l s' ps n r} : CB s p = .go s' ps → Cq n s' (ps ++ l) r → Cq (n + 1) s (p :: l) r
def HM (C v : Nat) (s : List Bd) : List Pr → Prop
 | [] => True
 | p :: l => l.length + 2000 * min (p.1.on s).size 2000 + 4000000 * v ≤ C ∧ HM C v s l
theorem HM.less {C v v' : Nat} {s s' : List Bd} (hv : v' + 1 ≤ v) : ∀ {l : List Pr}, HM C v s l → HM C v' s' l
 | [], _ => trivial
 | p :: l, h => ⟨by have := h.1; have := Nat.min_le_right (p.1.on s').size 2000; omega, HM.less hv h.2⟩
theorem HM.more {C v m : Nat} {s : List Bd} {l : List Pr} (hm : m + 1 ≤ 2000) (hC : l.length + 2000 * (m + 1) + 4000000 * v ≤ C) (hl : HM C v s l) : ∀ {ps : List Pr}, ps.length ≤ 2000 → (∀ c ∈ ps, (c.1.on s).size ≤ m) → HM C v s (ps ++ l)
 | [], _, _ => hl
 | c :: ps, h1, h2 => by
  refine ⟨?_, HM.more hm hC hl (by simp at h1; omega) fun c hc => h2 c (by simp [hc])⟩
  have h3 := h2 c (by simp)
  have h4 := Nat.min_le_left (c.1.on s).size 2000
  simp only [List.length_cons] at h1
  have e : (ps ++ l).length = ps.length + l.length := List.length_append
  show (ps ++ l).length + _ + _ ≤ C
  omega
structure CN (U : List ByteArray) (C : Nat) (s : List Bd) (l : List Pr) : Prop where
 ord : BB s
 var : ∀ b ∈ s, AQ b.1 = true
 inU : ∀ b ∈ s, b.1 ∈ U
 chk : ∀ b ∈ s, b.2.chk = 0
 siz : ∀ b ∈ s, b.2.size ≤ 2000
 idem : ∀ b ∈ s, It s b.2
 ranU : ∀ b ∈ s, ∀ y, occ y b.2 = true → y ∈ U
 lchk : ∀ p ∈ l, p.1.chk = 0 ∧ p.2.chk = 0
 lU : ∀ p ∈ l, ∀ y, (occ y p.1 = true → y ∈ U) ∧ (occ y p.2 = true → y ∈ U)
 lsiz : ∀ p ∈ l, p.1.size ≤ 2000 ∧ p.2.size ≤ 2000
 fits : HM C (U.length - s.length) s l
theorem Hm {x : ByteArray} : ∀ {m : List ByteArray}, x ∈ m → (m.filter fun y => !decide (y = x)).length + 1 ≤ m.length
 | y :: m, h => by
  have hle := List.length_filter_le (fun y => !decide (y = x)) m
  by_cases e : y = x
  ·rw [List.filter_cons_of_neg (by simp [e]), List.length_cons]
   omega
  ·rw [List.filter_cons_of_pos (by simp [e]), List.length_cons, List.length_cons]
   have := Hm (x := x) (m := m) ((List.mem_cons.1 h).resolve_left fun h => e h.symm)
   omega
theorem Hc : ∀ {l m : List ByteArray}, l.Nodup → (∀ x ∈ l, x ∈ m) → l.length ≤ m.length
 | [], m, _, _ => Nat.zero_le _
 | x :: l, m, hn, hs => by
  obtain ⟨n1, n2⟩ := List.nodup_cons.1 hn
  have h1 := Hc (m := m.filter fun y => !decide (y = x)) n2 fun y hy => List.mem_filter.2 ⟨hs y (by simp [hy]), by
   have : y ≠ x := fun e => n1 (by rw [← e]; exact hy)
   simp [this]⟩
  have := Hm (hs x (by simp))
  rw [List.length_cons]
  omega
theorem CN.len {U : List ByteArray} {C : Nat} {s : List Bd} {l : List Pr} (h : CN U C s l) : s.length ≤ U.length := by
 have := Hc (l := s.map (fun b : Bd => b.1)) (m := U) (Cc h.ord) fun x hx => by
  obtain ⟨b, hb, rfl⟩ := List.mem_map.1 hx
  exact h.inU b hb
 simpa using this
theorem CN.stack {U : List ByteArray} {C : Nat} {s : List Bd} {l : List Pr} (h : CN U C s l) : l.length ≤ C + 1 := by
 cases l with
 | nil => simp
 | cons p l => have := h.fits.1; simp; omega
def FE (s : List Bd) : List Pr → Nat
 | [] => 0
 | p :: l => (p.1.on s).size + FE s l
theorem Hl (s : List Bd) : ∀ (ps l : List Pr), FE s (ps ++ l) = FE s ps + FE s l
 | [], l => by simp [FE]
 | p :: ps, l => by rw [List.cons_append, FE, Hl s ps l, FE]; omega
theorem Dz {α β : Type} {xs : List α} {ys : List β} {c : α × β} (h : c ∈ xs.zip ys) : c.1 ∈ xs ∧ c.2 ∈ ys := by
 obtain ⟨a, b⟩ := c
 exact ⟨(List.of_mem_zip h).1, (List.of_mem_zip h).2⟩
theorem CN.tail {U : List ByteArray} {C : Nat} {s : List Bd} {p : Pr} {l : List Pr} (h : CN U C s (p :: l)) : CN U C s l :=
 { h with lchk := fun q hq => h.lchk q (by simp [hq]), lU := fun q hq => h.lU q (by simp [hq]), lsiz := fun q hq => h.lsiz q (by simp [hq]), fits := h.fits.2 }
theorem onU {U : List ByteArray} {C : Nat} {s : List Bd} {l : List Pr} (h : CN U C s l) {t : Tm} (hc : t.chk = 0) (hU : ∀ y, occ y t = true → y ∈ U) : (t.on s).chk = 0 ∧ It s (t.on s) ∧ ∀ y, occ y (t.on s) = true → y ∈ U := by
 refine ⟨Jf h.chk hc, fun b hb => ?_, fun y hy => ?_⟩
 ·cases ho : occ b.1 (t.on s) with
  | false => rfl
  | true =>
   rcases Nw h.var hc ho with ⟨_, k⟩ | ⟨c, hc', k⟩
   ·exact absurd rfl (k b hb)
   ·rw [h.idem c hc' b hb] at k; cases k
 ·rcases Nw h.var hc hy with ⟨k, _⟩ | ⟨c, hc', k⟩
  ·exact hU y k
  ·exact h.ranU c hc' y k
theorem JJ {U : List ByteArray} {C : Nat} {s : List Bd} {l : List Pr} (h : CN U C s l) {x : ByteArray} {t : Tm} (hx : AQ x = true) (hxU : x ∈ U) (hxs : ∀ b ∈ s, b.1 ≠ x) (htc : t.chk = 0) (hts : t.size ≤ 2000) (htn : It s t) (htU : ∀ y, occ y t = true → y ∈ U) {s' : List Bd} {ps : List Pr} (hb : DX s x t = .go s' ps) :
  ps = [] ∧ CN U C s' l ∧ s.length < s'.length := by
 unfold DX at hb
 split at hb
 ·cases hb
 rename_i ho
 have ho : occ x t = false := by simpa using ho
 split at hb
 ·rename_i hall
  cases hb
  have hone : ∀ b ∈ [(x, t)], AQ b.1 = true := by simp [hx]
  have honec : ∀ b ∈ ([(x, t)] : List Bd), b.2.chk = 0 := by simp [htc]
  have hmem : ∀ b, b ∈ s.map (fun b => (b.1, b.2.on [(x, t)])) ++ [(x, t)] ↔ (∃ c ∈ s, b = (c.1, c.2.on [(x, t)])) ∨ b = (x, t) := fun b => by
   simp only [List.mem_append, List.mem_map, List.mem_singleton]
   constructor
   ·rintro (⟨c, hc, rfl⟩ | h)
    ·exact .inl ⟨c, hc, rfl⟩
    ·exact .inr h
   ·rintro (⟨c, hc, rfl⟩ | h)
    ·exact .inl ⟨c, hc, rfl⟩
    ·exact .inr h
  have hnamed : Ba (s.map (fun b => (b.1, b.2.on [(x, t)])) ++ [(x, t)]) := by
   have := Cc h.ord
   unfold Ba at this ⊢
   rw [List.map_append, List.map_map, List.nodup_append]
   refine ⟨this, by simp, fun a ha b hb e => ?_⟩
   obtain ⟨c, hc, rfl⟩ := List.mem_map.1 ha
   simp only [List.map_cons, List.map_nil, List.mem_singleton] at hb
   exact hxs c hc (e.trans hb)
  have hoccr : ∀ c ∈ s, ∀ y, occ y (c.2.on [(x, t)]) = true → (occ y c.2 = true ∧ x ≠ y) ∨ occ y t = true := fun c hc y hy => by
   rcases Nw hone (h.chk c hc) hy with ⟨k1, k2⟩ | ⟨b, hb, k⟩
   ·exact .inl ⟨k1, k2 (x, t) (by simp)⟩
   ·rw [List.mem_singleton] at hb
    subst hb
    exact .inr k
  have hfree : ∀ b ∈ s.map (fun b => (b.1, b.2.on [(x, t)])) ++ [(x, t)], ∀ c ∈ s.map (fun b => (b.1, b.2.on [(x, t)])) ++ [(x, t)], occ c.1 b.2 = false := fun b hb c hc => by
   cases hoc : occ c.1 b.2 with
   | false => rfl
   | true =>
    exfalso
    rcases (hmem b).1 hb with ⟨b', hb', rfl⟩ | rfl
    ·rcases hoccr b' hb' _ hoc with ⟨k1, k2⟩ | k
     ·rcases (hmem c).1 hc with ⟨c', hc', rfl⟩ | rfl
      ·have := h.idem b' hb' c' hc'
       rw [k1] at this
       cases this
      ·exact k2 rfl
     ·rcases (hmem c).1 hc with ⟨c', hc', rfl⟩ | rfl
      ·have := htn c' hc'
       rw [k] at this
       cases this
      ·rw [k] at ho; cases ho
    ·rcases (hmem c).1 hc with ⟨c', hc', rfl⟩ | rfl
     ·have := htn c' hc'
      rw [hoc] at this
      cases this
     ·rw [hoc] at ho; cases ho
  have hlen : (BQ (s.map (fun b => (b.1, b.2.on [(x, t)])) ++ [(x, t)])).length = s.length + 1 := by rw [BS]; simp
  have hinU : ∀ b ∈ BQ (s.map (fun b => (b.1, b.2.on [(x, t)])) ++ [(x, t)]), b.1 ∈ U := fun b hb => by
   rcases (hmem b).1 (Bj.1 hb) with ⟨c, hc, rfl⟩ | rfl
   ·exact h.inU c hc
   ·exact hxU
  have hle : s.length + 1 ≤ U.length := by
   have := Hc (l := (BQ (s.map (fun b => (b.1, b.2.on [(x, t)])) ++ [(x, t)])).map (fun b : Bd => b.1)) (m := U) (Cc (Bh hnamed)) fun y hy => by
    obtain ⟨b, hb, rfl⟩ := List.mem_map.1 hy
    exact hinU b hb
   rw [List.length_map, hlen] at this
   exact this
  refine ⟨rfl, ⟨Bh hnamed, fun b hb => ?_, hinU, fun b hb => ?_, fun b hb => ?_, fun b hb c hc => hfree b (Bj.1 hb) c (Bj.1 hc), fun b hb y hy => ?_, h.lchk, h.lU, h.lsiz, HM.less (by rw [hlen]; omega) h.fits⟩, by rw [hlen]; omega⟩
  ·rcases (hmem b).1 (Bj.1 hb) with ⟨c, hc, rfl⟩ | rfl
   ·exact h.var c hc
   ·exact hx
  ·rcases (hmem b).1 (Bj.1 hb) with ⟨c, hc, rfl⟩ | rfl
   ·exact Jf honec (h.chk c hc)
   ·exact htc
  ·rcases (hmem b).1 (Bj.1 hb) with ⟨c, hc, rfl⟩ | rfl
   ·have := List.all_eq_true.1 hall c hc
    simpa using this
   ·exact hts
  ·rcases (hmem b).1 (Bj.1 hb) with ⟨c, hc, rfl⟩ | rfl
   ·rcases hoccr c hc y hy with k | k
    ·exact h.ranU c hc y k.1
    ·exact htU y k
   ·exact htU y hy
 ·cases hb
theorem Fg {U : List ByteArray} {C : Nat} {s : List Bd} {p : Pr} {l : List Pr} (h : CN U C s (p :: l)) {s' : List Bd} {ps : List Pr} (hs : CB s p = .go s' ps) :
  CN U C s' (ps ++ l) ∧ (s.length < s'.length ∨ (s' = s ∧ FE s (ps ++ l) < FE s (p :: l))) := by
 obtain ⟨hc1, hc2⟩ := h.lchk p (by simp)
 have hU := h.lU p (by simp)
 obtain ⟨a1, a2, a3⟩ := onU h hc1 fun y => (hU y).1
 obtain ⟨b1, b2, b3⟩ := onU h hc2 fun y => (hU y).2
 have hpos := Tm.size_pos (p.1.on s)
 have nameNo : ∀ {t : Tm}, It s t → ∀ b ∈ s, b.1 ≠ t.name := fun {t} hn b hb e => (Li (hn b hb)).1 e.symm
 have nameU : ∀ {t : Tm}, (∀ y, occ y t = true → y ∈ U) → t.name ∈ U := fun {t} ht => ht _ (IY.2 (.inl rfl))
 unfold CB at hs
 split at hs
 ·cases hs
 rename_i hz
 rw [not_or] at hz
 split at hs
 ·cases hs
  exact ⟨h.tail, .inr ⟨rfl, by simp only [List.nil_append, FE]; omega⟩⟩
 split at hs
 ·rename_i hv
  obtain ⟨rfl, k1, k2⟩ := JJ h.tail hv (nameU a3) (nameNo a2) b1 (by omega) b2 b3 hs
  exact ⟨k1, .inl k2⟩
 split at hs
 ·rename_i hv
  obtain ⟨rfl, k1, k2⟩ := JJ h.tail hv (nameU b3) (nameNo b2) a1 (by omega) a2 a3 hs
  exact ⟨k1, .inl k2⟩
 split at hs
 ·rename_i heq
  cases hs
  have hsz := Tm.size_eq (p.1.on s)
  have hlen := Tm.length_le (p.1.on s).args
  have hid : ∀ a ∈ (p.1.on s).args, a.on s = a := fun a ha => T6 fun b hb => (Li (a2 b hb)).2 a ha
  have hsum : ∀ (xs ys : List Tm), (∀ a ∈ xs, a.on s = a) → FE s (xs.zip ys) ≤ Tm.sizes xs := by
   intro xs
   induction xs with
   | nil => intro ys _; simp [FE]
   | cons x xs ih =>
    intro ys hx
    cases ys with
    | nil => simp [FE]
    | cons y ys =>
     have := ih ys fun a ha => hx a (by simp [ha])
     simp only [List.zip_cons_cons, FE, Tm.sizes]
     rw [hx x (by simp)]
     omega
  have hzl : ((p.1.on s).args.zip (p.2.on s).args).length ≤ (p.1.on s).args.length := by rw [List.length_zip]; exact Nat.min_le_left _ _
  have hmin : min (p.1.on s).size 2000 = (p.1.on s).size := Nat.min_eq_left (by omega)
  have hf := h.fits.1
  rw [hmin] at hf
  have hszb := Tm.size_eq (p.2.on s)
  refine ⟨⟨h.ord, h.var, h.inU, h.chk, h.siz, h.idem, h.ranU, fun q hq => ?_, fun q hq => ?_, fun q hq => ?_, HM.more (m := (p.1.on s).size - 1) (by omega) (by omega) h.fits.2 (by omega) fun c hc => ?_⟩, .inr ⟨rfl, ?_⟩⟩
  ·rcases List.mem_append.1 hq with hq | hq
   ·exact ⟨(Tm.chk_args a1).2 _ (Dz hq).1, (Tm.chk_args b1).2 _ (Dz hq).2⟩
   ·exact h.tail.lchk q hq
  ·rcases List.mem_append.1 hq with hq | hq
   ·exact fun y => ⟨fun hy => a3 y (Ly (Dz hq).1 hy), fun hy => b3 y (Ly (Dz hq).2 hy)⟩
   ·exact h.tail.lU q hq
  ·rcases List.mem_append.1 hq with hq | hq
   ·have h1 := Tm.size_mem (Dz hq).1
    have h2 := Tm.size_mem (Dz hq).2
    omega
   ·exact h.tail.lsiz q hq
  ·rw [hid _ (Dz hc).1]
   have h1 := Tm.size_mem (Dz hc).1
   omega
  ·rw [Hl]
   have h1 := hsum _ (p.2.on s).args hid
   simp only [FE]
   omega
 ·cases hs
theorem Kc {U : List ByteArray} {C : Nat} : ∀ (v m : Nat) (s : List Bd) (l : List Pr), CN U C s l → U.length - s.length = v → FE s l = m → ∃ n r, Cq n s l r := by
 intro v
 induction v using Nat.strongRecOn with
 | _ v ihv =>
 intro m
 induction m using Nat.strongRecOn with
 | _ m ihm =>
 intro s l h hv hm
 cases l with
 | nil => exact ⟨0, _, .nil⟩
 | cons p l =>
  cases hs : CB s p with
  | err e => exact ⟨1, _, .err hs⟩
  | go s' ps =>
   obtain ⟨h', hd⟩ := Fg h hs
   have hlen := h'.len
   rcases hd with hd | ⟨rfl, hd⟩
   ·obtain ⟨n, r, hr⟩ := ihv (U.length - s'.length) (by omega) _ s' _ h' rfl rfl
    exact ⟨n + 1, r, .go hs hr⟩
   ·obtain ⟨n, r, hr⟩ := ihm (FE s' (ps ++ l)) (by omega) s' _ h' hv rfl
    exact ⟨n + 1, r, .go hs hr⟩


theorem JL (y : ByteArray) : lookup [] y = none := rfl
theorem Hi (b : Bd) (l : List Bd) (y : ByteArray) : lookup (b :: l) y = if b.1 = y then some b.2 else lookup l y := by
 unfold lookup
 by_cases h : b.1 = y
 ·rw [List.find?_cons_of_pos (by simpa using h), if_pos h]; rfl
 ·rw [List.find?_cons_of_neg (by simpa using h), if_neg h]
theorem N9 {l : List Bd} (hn : Ba l) {y : ByteArray} {x : Tm} : lookup l y = some x ↔ (y, x) ∈ l := by
 induction l with
 | nil => simp [JL]
 | cons b l ih =>
  obtain ⟨n1, n2⟩ := List.nodup_cons.1 (show ((b :: l).map fun c : Bd => c.1).Nodup from hn)
  rw [Hi, List.mem_cons]
  by_cases h : b.1 = y
  ·rw [if_pos h]
   constructor
   ·intro e
    cases e
    exact .inl (by rw [← h])
   ·rintro (e | e)
    ·rw [← e]
    ·exact absurd (List.mem_map.2 ⟨(y, x), e, rfl⟩) (by subst h; exact n1)
  ·rw [if_neg h, ih n2]
   constructor
   ·exact .inr
   ·rintro (e | e)
    ·exact absurd (by rw [← e]) h
    ·exact e
def Sf (y : ByteArray) : Tm := .mk y []
structure OkB (s : List Bd) : Prop where
 ord : BB s
 var : ∀ b ∈ s, AQ b.1 = true
 nam : ∀ b ∈ s, A0 b.1 = true
 chk : ∀ b ∈ s, b.2.chk = 0
theorem KT {t : Tm} (h : t.chk = 0) : CE t = 0 := by
 rw [Tm.chk_eq] at h
 by_cases h1 : CE t = 0
 ·exact h1
 ·rw [if_neg h1] at h; exact h
theorem NV {n : ByteArray} {xs ys : List Tm} (h : (Tm.mk n xs).chk = 0) (hl : ys.length = xs.length) (hy : ∀ y ∈ ys, y.chk = 0) : (Tm.mk n ys).chk = 0 := by
 have h1 : CE (Tm.mk n ys) = 0 := by
  have := KT h
  unfold CE at this ⊢
  rw [Tm.name_mk, Tm.args_mk] at this ⊢
  rw [hl]; exact this
 rw [Tm.chk_eq, if_pos h1, Tm.args_mk]
 clear h h1 hl
 induction ys with
 | nil => rfl
 | cons x ys ih =>
  simp only [Tm.chkL]
  rw [if_pos (hy x (by simp))]
  exact ih fun y h => hy y (by simp [h])
theorem Tu {s : List Bd} (hs : ∀ b ∈ s, b.2.chk = 0) {t : Tm} (hc : t.chk = 0) : (t.on s).chk = 0 := by
 induction hN : SizeOf.sizeOf t using Nat.strongRecOn generalizing t with
 | _ N ih =>
 subst hN
 obtain ⟨c1, c2⟩ := Tm.chk_args hc
 by_cases hleaf : (∃ x, lookup s t.name = some x) ∧ t.args = []
 ·obtain ⟨⟨x, hx⟩, h0⟩ := hleaf
  rw [Tm.on_leaf hx h0]
  obtain ⟨b, hb, _, rfl⟩ := Cl hx
  exact hs b hb
 ·have hon : t.on s = .mk t.name (t.args.map (Tm.on s)) := Tm.on_knot (by
   cases hl : lookup s t.name with
   | none => exact .inl rfl
   | some x => exact .inr fun h0 => hleaf ⟨⟨x, hl⟩, h0⟩)
  rw [hon]
  refine NV (xs := t.args) (by cases t; exact hc) (by simp) fun y hy => ?_
  obtain ⟨c, hc', rfl⟩ := List.mem_map.1 hy
  exact ih _ (Tm.lt_of_arg hc') (c2 c hc') rfl
theorem Mx {y : ByteArray} (h : A0 y = true) : (Sf y).chk = 0 := by
 have h0 : CE (Sf y) = 0 := by
  unfold CE Sf
  rw [Tm.name_mk, if_pos h, if_neg (by simp [Tm.args_mk])]
 rw [Tm.chk_eq, if_pos h0]
 rfl

set_option maxRecDepth 100000
def FK : IR :=
 (.seq (.ops [.i 2 (.mov (.c (.one (.st (.bool false)))))]) (.seq (.ops [.m 3 0, .i 4 (.bin .geq (.t 3) (.c (.one (.st (.int .u8 97))))), .m 5 4, .mk (some 6) (some (5, true)) (.mov (.t 0)) .no, .mk (some 7) (some (5, true)) (.bin .leq (.t 6) (.c (.one (.st (.int .u8 122))))) .no, .i 8 (.pick (.t 5) (.t 7) (.c (.one (.st (.bool false))))), .m 9 8, .mk (some 10) (some (9, false)) (.mov (.t 0)) .no, .mk (some 11) (some (9, false)) (.bin .geq (.t 10) (.c (.one (.st (.int .u8 65))))) .no, .mk (some 12) (some (9, false)) (.mov (.t 11)) .no, .mk (some 13) (some (12, true)) (.mov (.t 0)) .no, .mk (some 14) (some (12, true)) (.bin .leq (.t 13) (.c (.one (.st (.int .u8 90))))) .no, .mk (some 15) (some (9, false)) (.pick (.t 12) (.t 14) (.c (.one (.st (.bool false))))) .no, .i 16 (.pick (.t 9) (.c (.one (.st (.bool true)))) (.t 15)), .m 17 16, .mk (some 18) (some (17, false)) (.mov (.t 0)) .no, .mk (some 19) (some (17, false)) (.bin .geq (.t 18) (.c (.one (.st (.int .u8 48))))) .no, .mk (some 20) (some (17, false)) (.mov (.t 19)) .no, .mk (some 21) (some (20, true)) (.mov (.t 0)) .no, .mk (some 22) (some (20, true)) (.bin .leq (.t 21) (.c (.one (.st (.int .u8 57))))) .no, .mk (some 23) (some (17, false)) (.pick (.t 20) (.t 22) (.c (.one (.st (.bool false))))) .no, .i 24 (.pick (.t 17) (.c (.one (.st (.bool true)))) (.t 23)), .m 2 24]) .ret))
theorem Ir : OkF Tryd.prog 57 25 [] FK [.t 2] := .of Tryd.func57 rfl rfl (by kernel_rfl) rfl
def F_ : IR :=
 (.seq (.ops [.i 2 (.mov (.c (.one (.st (.bool false)))))]) (.seq (.ops [.m 3 0, .i 4 (.bin .geq (.t 3) (.c (.one (.st (.int .u8 97))))), .m 5 4, .mk (some 6) (some (5, true)) (.mov (.t 0)) .no, .mk (some 7) (some (5, true)) (.bin .leq (.t 6) (.c (.one (.st (.int .u8 122))))) .no, .i 8 (.pick (.t 5) (.t 7) (.c (.one (.st (.bool false))))), .m 9 8, .mk (some 10) (some (9, false)) (.mov (.t 0)) .no, .mk (some 11) (some (9, false)) (.bin .geq (.t 10) (.c (.one (.st (.int .u8 65))))) .no, .mk (some 12) (some (9, false)) (.mov (.t 11)) .no, .mk (some 13) (some (12, true)) (.mov (.t 0)) .no, .mk (some 14) (some (12, true)) (.bin .leq (.t 13) (.c (.one (.st (.int .u8 90))))) .no, .mk (some 15) (some (9, false)) (.pick (.t 12) (.t 14) (.c (.one (.st (.bool false))))) .no, .i 16 (.pick (.t 9) (.c (.one (.st (.bool true)))) (.t 15)), .m 17 16, .mk (some 18) (some (17, false)) (.mov (.t 0)) .no, .mk (some 19) (some (17, false)) (.bin .geq (.t 18) (.c (.one (.st (.int .u8 48))))) .no, .mk (some 20) (some (17, false)) (.mov (.t 19)) .no, .mk (some 21) (some (20, true)) (.mov (.t 0)) .no, .mk (some 22) (some (20, true)) (.bin .leq (.t 21) (.c (.one (.st (.int .u8 57))))) .no, .mk (some 23) (some (17, false)) (.pick (.t 20) (.t 22) (.c (.one (.st (.bool false))))) .no, .i 24 (.pick (.t 17) (.c (.one (.st (.bool true)))) (.t 23)), .m 2 24]) .ret))
theorem KD : OkF Tryd.prog 40 25 [] F_ [.t 2] := .of Tryd.func40 rfl rfl (by kernel_rfl) rfl
def C5 : IR :=
 (.seq (.ops [.i 2 (.mov (.c (.one (.st (.bool false)))))]) (.seq (.seq (.ops [.m 4 0, .i 5 (.len true (.t 4)), .i 6 (.bin .lss (.t 5) (.n 1)), .m 7 6, .mk (some 8) (some (7, false)) (.mov (.t 0)) .no, .mk (some 9) (some (7, false)) (.len true (.t 8)) .no, .mk (some 10) (some (7, false)) (.bin .gtr (.t 9) (.n 8)) .no, .i 11 (.pick (.t 7) (.c (.one (.st (.bool true)))) (.t 10)), .m 12 11, .mk (some 13) (some (12, false)) (.mov (.t 0)) .no, .mk (some 14) (some (12, false)) (.indexStr (.t 13) (.n 0)) .no, .mk (some 15) (some (12, false)) (.bin .geq (.t 14) (.c (.one (.st (.int .u8 48))))) .no, .mk (some 16) (some (12, false)) (.mov (.t 15)) .no, .mk (some 17) (some (16, true)) (.mov (.t 0)) .no, .mk (some 18) (some (16, true)) (.indexStr (.t 17) (.n 0)) .no, .mk (some 19) (some (16, true)) (.bin .leq (.t 18) (.c (.one (.st (.int .u8 57))))) .no, .mk (some 20) (some (12, false)) (.pick (.t 16) (.t 19) (.c (.one (.st (.bool false))))) .no, .i 21 (.pick (.t 12) (.c (.one (.st (.bool true)))) (.t 20))]) (.cond (.t 21) (.seq (.ops [.i 2 (.mov (.c (.one (.st (.bool false)))))]) .ret) .skip)) (.seq (.seq (.ops [.m 22 0, .i 23 (.len true (.t 22)), .i 24 (.mov (.n 0))]) (.block 0 (.loop (.seq (.ops [.i 25 (.bin .lss (.t 24) (.t 23))]) (.seq (.cond (.t 25) .skip (.exit 0)) (.seq (.block 1 (.seq (.ops [.m 26 24, .m 3 26]) (.seq (.ops [.m 27 0, .m 28 3, .i 29 (.indexStr (.t 27) (.t 28)), .i 30 (.call 57 [.t 29]), .i 31 (.un .not (.t 30))]) (.cond (.t 31) (.seq (.ops [.i 2 (.mov (.c (.one (.st (.bool false)))))]) .ret) .skip)))) (.ops [.i 32 (.bin .add (.t 24) (.n 1)), .m 24 32]))))))) (.seq (.ops [.i 2 (.mov (.c (.one (.st (.bool true)))))]) .ret))))
theorem Da : OkF Tryd.prog 56 33 [] C5 [.t 2] := .of Tryd.func56 rfl rfl (by kernel_rfl) rfl
def DK : IR :=
 (.seq (.ops [.i 2 (.mov (.c (.one (.st (.bool false)))))]) (.seq (.seq (.ops [.m 4 0, .i 5 (.bin .eql (.t 4) (.c (.one (.st (.str (ByteArray.mk (#[]))))))), .m 6 5, .mk (some 7) (some (6, false)) (.mov (.t 0)) .no, .mk (some 8) (some (6, false)) (.len true (.t 7)) .no, .mk (some 9) (some (6, false)) (.bin .gtr (.t 8) (.n 8)) .no, .i 10 (.pick (.t 6) (.c (.one (.st (.bool true)))) (.t 9)), .m 11 10, .mk (some 12) (some (11, false)) (.mov (.t 0)) .no, .mk (some 13) (some (11, false)) (.indexStr (.t 12) (.n 0)) .no, .mk (some 14) (some (11, false)) (.bin .geq (.t 13) (.c (.one (.st (.int .u8 48))))) .no, .mk (some 15) (some (11, false)) (.mov (.t 14)) .no, .mk (some 16) (some (15, true)) (.mov (.t 0)) .no, .mk (some 17) (some (15, true)) (.indexStr (.t 16) (.n 0)) .no, .mk (some 18) (some (15, true)) (.bin .leq (.t 17) (.c (.one (.st (.int .u8 57))))) .no, .mk (some 19) (some (11, false)) (.pick (.t 15) (.t 18) (.c (.one (.st (.bool false))))) .no, .i 20 (.pick (.t 11) (.c (.one (.st (.bool true)))) (.t 19))]) (.cond (.t 20) (.seq (.ops [.i 2 (.mov (.c (.one (.st (.bool false)))))]) .ret) .skip)) (.seq (.seq (.ops [.i 3 (.mov (.n 0))]) (.block 0 (.loop (.seq (.seq (.ops [.m 21 3, .m 22 0, .i 23 (.len true (.t 22)), .i 24 (.bin .lss (.t 21) (.t 23))]) (.cond (.t 24) .skip (.exit 0))) (.seq (.block 1 (.seq (.ops [.m 27 0, .m 28 3, .i 29 (.indexStr (.t 27) (.t 28)), .i 30 (.call 40 [.t 29]), .i 31 (.un .not (.t 30))]) (.cond (.t 31) (.seq (.ops [.i 2 (.mov (.c (.one (.st (.bool false)))))]) .ret) .skip))) (.ops [.m 25 3, .i 26 (.bin .add (.t 25) (.n 1)), .m 3 26])))))) (.seq (.ops [.i 2 (.mov (.c (.one (.st (.bool true)))))]) .ret))))
theorem D5 : OkF Tryd.prog 41 32 [] DK [.t 2] := .of Tryd.func41 rfl rfl (by kernel_rfl) rfl
def C9 : IR :=
 (.seq (.ops [.i 2 (.mov (.c (.one (.st (.bool false)))))]) (.seq (.ops [.m 3 0, .i 4 (.bin .neq (.t 3) (.c (.one (.st (.str (ByteArray.mk (#[]))))))), .m 5 4, .mk (some 6) (some (5, true)) (.mov (.t 0)) .no, .mk (some 7) (some (5, true)) (.indexStr (.t 6) (.n 0)) .no, .mk (some 8) (some (5, true)) (.bin .geq (.t 7) (.c (.one (.st (.int .u8 65))))) .no, .i 9 (.pick (.t 5) (.t 8) (.c (.one (.st (.bool false))))), .m 10 9, .mk (some 11) (some (10, true)) (.mov (.t 0)) .no, .mk (some 12) (some (10, true)) (.indexStr (.t 11) (.n 0)) .no, .mk (some 13) (some (10, true)) (.bin .leq (.t 12) (.c (.one (.st (.int .u8 90))))) .no, .i 14 (.pick (.t 10) (.t 13) (.c (.one (.st (.bool false))))), .m 2 14]) .ret))
theorem ES : OkF Tryd.prog 21 15 [] C9 [.t 2] := .of Tryd.func21 rfl rfl (by kernel_rfl) rfl
def GW : IR :=
 (.seq (.ops [.i 2 (.mov (.c (.one (.st (.bool false)))))]) (.seq (.ops [.m 3 0, .i 4 (.bin .neq (.t 3) (.c (.one (.st (.str (ByteArray.mk (#[]))))))), .m 5 4, .mk (some 6) (some (5, true)) (.mov (.t 0)) .no, .mk (some 7) (some (5, true)) (.indexStr (.t 6) (.n 0)) .no, .mk (some 8) (some (5, true)) (.bin .geq (.t 7) (.c (.one (.st (.int .u8 65))))) .no, .i 9 (.pick (.t 5) (.t 8) (.c (.one (.st (.bool false))))), .m 10 9, .mk (some 11) (some (10, true)) (.mov (.t 0)) .no, .mk (some 12) (some (10, true)) (.indexStr (.t 11) (.n 0)) .no, .mk (some 13) (some (10, true)) (.bin .leq (.t 12) (.c (.one (.st (.int .u8 90))))) .no, .i 14 (.pick (.t 10) (.t 13) (.c (.one (.st (.bool false))))), .m 2 14]) .ret))
theorem JS : OkF Tryd.prog 42 15 [] GW [.t 2] := .of Tryd.func42 rfl rfl (by kernel_rfl) rfl
def FO : IR :=
 (.seq (.ops [.i 2 (.box 32 (.t 0)), .i 4 (.mov (.n 0))]) (.seq (.ops [.m 7 1, .i 8 (.bin .sub (.t 7) (.n 1)), .m 1 8]) (.seq (.seq (.ops [.f 9 1 2, .l 10 9, .i 11 (.len false (.t 10)), .i 12 (.mov (.n 0))]) (.block 0 (.loop (.seq (.ops [.i 13 (.bin .lss (.t 12) (.t 11))]) (.seq (.cond (.t 13) .skip (.exit 0)) (.seq (.block 1 (.seq (.ops [.i 14 (.indexAddr 2 (.t 10) (.t 12)), .L 15 2 14, .i 6 (.alloc 32 [.st (.str (ByteArray.mk (#[]))), .full []]), .s 2 6 15]) (.seq (.seq (.ops [.m 16 1, .i 17 (.bin .lss (.t 16) (.n 0))]) (.cond (.t 17) (.exit 0) .skip)) (.ops [.L 18 2 6, .m 19 1, .i 20 (.call 35 [.t 18, .t 19]), .m 1 20])))) (.ops [.i 21 (.bin .add (.t 12) (.n 1)), .m 12 21]))))))) (.seq (.ops [.m 22 1, .m 4 22]) .ret))))
theorem JQ : OkF Tryd.prog 35 23 [] FO [.t 4] := .of Tryd.func35 rfl rfl (by kernel_rfl) rfl
def F7 : IR :=
 (.seq (.ops [.i 1 (.box 32 (.t 0)), .i 2 (.mov (.n 0))]) (.seq (.seq (.ops [.f 6 0 1, .l 7 6, .i 8 (.call 56 [.t 7]), .i 9 (.un .not (.t 8))]) (.cond (.t 9) (.seq (.ops [.i 2 (.mov (.n 1))]) .ret) .skip)) (.seq (.seq (.ops [.f 10 0 1, .l 11 10, .i 12 (.call 21 [.t 11]), .m 13 12, .mk (some 14) (some (13, true)) (.fieldAddr 1 (.t 1)) .no, .mk (some 15) (some (13, true)) (.load false 1 (.t 14)) .no, .mk (some 16) (some (13, true)) (.len false (.t 15)) .no, .mk (some 17) (some (13, true)) (.bin .gtr (.t 16) (.n 0)) .no, .i 18 (.pick (.t 13) (.t 17) (.c (.one (.st (.bool false)))))]) (.cond (.t 18) (.seq (.ops [.i 2 (.mov (.n 2))]) .ret) .skip)) (.seq (.seq (.ops [.f 19 1 1, .l 20 19, .i 21 (.len false (.t 20)), .i 22 (.mov (.n 0))]) (.block 0 (.loop (.seq (.ops [.i 23 (.bin .lss (.t 22) (.t 21))]) (.seq (.cond (.t 23) .skip (.exit 0)) (.seq (.block 1 (.seq (.ops [.i 24 (.indexAddr 2 (.t 20) (.t 22)), .L 25 2 24, .i 4 (.alloc 32 [.st (.str (ByteArray.mk (#[]))), .full []]), .s 2 4 25]) (.seq (.ops [.L 26 2 4, .i 27 (.call 36 [.t 26]), .m 5 27]) (.seq (.ops [.m 28 5, .i 29 (.bin .neq (.t 28) (.n 0))]) (.cond (.t 29) (.seq (.ops [.m 30 5, .m 2 30]) .ret) .skip))))) (.ops [.i 31 (.bin .add (.t 22) (.n 1)), .m 22 31]))))))) (.seq (.ops [.i 2 (.mov (.n 0))]) .ret)))))
theorem Jt : OkF Tryd.prog 36 32 [] F7 [.t 2] := .of Tryd.func36 rfl rfl (by kernel_rfl) rfl
def GD : IR :=
 (.seq (.ops [.i 1 (.box 32 (.t 0)), .i 2 (.mov (.n 0))]) (.seq (.seq (.ops [.L 3 2 1, .i 4 (.call 35 [.t 3, .n 200]), .i 5 (.bin .lss (.t 4) (.n 0))]) (.cond (.t 5) (.seq (.ops [.i 2 (.mov (.n 3))]) .ret) .skip)) (.seq (.ops [.L 6 2 1, .i 7 (.call 36 [.t 6]), .m 2 7]) .ret)))
theorem Jv : OkF Tryd.prog 15 8 [] GD [.t 2] := .of Tryd.func15 rfl rfl (by kernel_rfl) rfl
def G7 : IR :=
 (.seq (.ops [.i 1 (.box 32 (.t 0)), .i 2 (.alloc 32 [.st (.str (ByteArray.mk (#[]))), .full []])]) (.seq (.ops [.f 6 0 1, .l 7 6, .i 8 (.build [.st (.str (ByteArray.mk (#[]))), .full []] [(0, 1, .t 7)]), .i 3 (.alloc 32 [.st (.str (ByteArray.mk (#[]))), .full []]), .s 2 3 8]) (.seq (.seq (.ops [.f 9 1 1, .l 10 9, .i 11 (.len false (.t 10)), .i 12 (.mov (.n 0))]) (.block 0 (.loop (.seq (.ops [.i 13 (.bin .lss (.t 12) (.t 11))]) (.seq (.cond (.t 13) .skip (.exit 0)) (.seq (.block 1 (.seq (.ops [.i 14 (.indexAddr 2 (.t 10) (.t 12)), .L 15 2 14, .i 5 (.alloc 32 [.st (.str (ByteArray.mk (#[]))), .full []]), .s 2 5 15]) (.ops [.f 16 1 3, .l 17 16, .L 18 2 5, .i 19 (.call 50 [.t 18]), .i 20 (.buildSlice false 32 2 [.t 19]), .i 21 (.append false 32 2 40 (.t 17) (.t 20)), .f 22 1 3, .s 1 22 21]))) (.ops [.i 23 (.bin .add (.t 12) (.n 1)), .m 12 23]))))))) (.seq (.ops [.L 24 2 3, .s 2 2 24]) .ret))))
theorem LR : OkF Tryd.prog 50 25 [] G7 [.cell 2 true 2] := .of Tryd.func50 rfl rfl (by kernel_rfl) rfl
def BX : IR :=
 (.seq (.ops [.i 4 (.mov (.n 0))]) (.seq (.seq (.ops [.m 6 0, .i 7 (.len false (.t 6)), .i 8 (.mov (.n 0))]) (.block 0 (.loop (.seq (.ops [.i 9 (.bin .lss (.t 8) (.t 7))]) (.seq (.cond (.t 9) .skip (.exit 0)) (.seq (.block 1 (.seq (.ops [.m 10 8, .m 5 10]) (.seq (.ops [.m 11 1, .m 12 0, .m 13 5, .i 14 (.indexAddr 1 (.t 12) (.t 13)), .l 15 14, .i 16 (.bin .eql (.t 11) (.t 15))]) (.cond (.t 16) (.seq (.ops [.m 17 5, .m 4 17]) .ret) .skip)))) (.ops [.i 18 (.bin .add (.t 8) (.n 1)), .m 8 18]))))))) (.seq (.ops [.i 4 (.mov (.c (.one (.st (.int .i64 (-1))))))]) .ret)))
theorem B7 : OkF Tryd.prog 45 19 [] BX [.t 4] := .of Tryd.func45 rfl rfl (by kernel_rfl) rfl
def Bs : IR :=
 (.seq (.ops [.i 4 (.mov (.c (.one (.st (.bool false)))))]) (.seq (.ops [.m 5 0, .m 6 1, .i 7 (.call 45 [.t 5, .t 6]), .i 8 (.bin .geq (.t 7) (.n 0)), .m 4 8]) .ret))
theorem Cu : OkF Tryd.prog 25 9 [] Bs [.t 4] := .of Tryd.func25 rfl rfl (by kernel_rfl) rfl
def El : IR :=
 (.seq (.ops [.i 2 (.box 32 (.t 0)), .i 4 (.mov (.c (.one (.full []))))]) (.seq (.seq (.ops [.f 7 0 2, .l 8 7, .i 9 (.call 21 [.t 8]), .m 10 9, .mk (some 11) (some (10, true)) (.mov (.t 1)) .no, .mk (some 12) (some (10, true)) (.fieldAddr 0 (.t 2)) .no, .mk (some 13) (some (10, true)) (.load false 1 (.t 12)) .no, .mk (some 14) (some (10, true)) (.call 25 [.t 11, .t 13]) .no, .mk (some 15) (some (10, true)) (.un .not (.t 14)) .no, .i 16 (.pick (.t 10) (.t 15) (.c (.one (.st (.bool false)))))]) (.cond (.t 16) (.ops [.m 17 1, .f 18 0 2, .l 19 18, .i 20 (.buildFlat [.t 19]), .i 21 (.append false 9 1 16 (.t 17) (.t 20)), .m 1 21]) .skip)) (.seq (.seq (.ops [.f 22 1 2, .l 23 22, .i 24 (.len false (.t 23)), .i 25 (.mov (.n 0))]) (.block 0 (.loop (.seq (.ops [.i 26 (.bin .lss (.t 25) (.t 24))]) (.seq (.cond (.t 26) .skip (.exit 0)) (.seq (.block 1 (.seq (.ops [.i 27 (.indexAddr 2 (.t 23) (.t 25)), .L 28 2 27, .i 6 (.alloc 32 [.st (.str (ByteArray.mk (#[]))), .full []]), .s 2 6 28]) (.ops [.L 29 2 6, .m 30 1, .i 31 (.callS 43 [.t 29, .t 30]), .m 1 31]))) (.ops [.i 32 (.bin .add (.t 25) (.n 1)), .m 25 32]))))))) (.seq (.ops [.m 33 1, .m 4 33]) .ret))))
theorem G6 : OkF Tryd.prog 43 34 [31] El [.t 4] := .of Tryd.func43 rfl rfl (by kernel_rfl) rfl
def GZ : IR :=
 (.seq (.ops [.i 1 (.box 32 (.t 0)), .i 2 (.mov (.c (.one (.full []))))]) (.seq (.ops [.L 3 2 1, .i 4 (.callS 43 [.t 3, .c (.one (.full []))]), .m 2 4]) .ret))
theorem Ll : OkF Tryd.prog 22 5 [4] GZ [.t 2] := .of Tryd.func22 rfl rfl (by kernel_rfl) rfl

set_option linter.unusedSimpArgs false
set_option maxHeartbeats 400000
theorem DO (s : ByteArray) (k : Nat) : CU s k = Ac s k := rfl
theorem L4 {s : ByteArray} (h : ¬ s.size = 0) : ¬ s = ⟨#[]⟩ := fun e => h (by rw [e]; rfl)
theorem I3 {s : ByteArray} (h : s.size = 0) : s = ⟨#[]⟩ := by
 have := ByteArray.size_eq_zero_iff.1 h
 exact this
theorem I1 (n : Int) (h0 : 0 ≤ n) : Aa Tryd.prog 57 [.one (.st (.int .u8 n))] (Af (A7 n)) := by
 refine Ir.ac fun C hC => ?_
 unfold FK
 have hc : (97 ≤ n ∧ n ≤ 122) ∨ (122 < n) ∨ (n < 97 ∧ 65 ≤ n ∧ n ≤ 90) ∨ (n < 97 ∧ 90 < n) ∨ (n < 65 ∧ 48 ≤ n ∧ n ≤ 57) ∨ (n < 65 ∧ 57 < n) ∨ (n < 48) := by omega
 rcases hc with h | h | h | h | h | h | h
 ·have h1 : 97 ≤ n := h.1
  have h2 : n ≤ 122 := h.2
  repeat' with_reducible first | refine W ?_ | refine Z0 ?_ | ((first | refine Wo fun K hK => ?_ | refine Wq ?_ | refine Wr ?_); (try simp only [go_sem, fN, seval, eT, iR, h1, h2]); (repeat refine Ai ?_); (try (refine hK _ ?_; clear hK K)))
  simp only [go_sem, fN, seval, AO, AS.result, AB, AD, AI, A7, h1, h2]
  try simp
 ·have h1 : 97 ≤ n := by omega
  have h2 : ¬ n ≤ 122 := by omega
  have h3 : 65 ≤ n := by omega
  have h4 : ¬ n ≤ 90 := by omega
  have h5 : 48 ≤ n := by omega
  have h6 : ¬ n ≤ 57 := by omega
  repeat' with_reducible first | refine W ?_ | refine Z0 ?_ | ((first | refine Wo fun K hK => ?_ | refine Wq ?_ | refine Wr ?_); (try simp only [go_sem, fN, seval, eT, iR, h1, h2, h3, h4, h5, h6]); (repeat refine Ai ?_); (try (refine hK _ ?_; clear hK K)))
  simp only [go_sem, fN, seval, AO, AS.result, AB, AD, AI, A7, h1, h2, h3, h4, h5, h6]
  try simp
 ·have h1 : ¬ 97 ≤ n := by omega
  have h3 : 65 ≤ n := by omega
  have h4 : n ≤ 90 := by omega
  repeat' with_reducible first | refine W ?_ | refine Z0 ?_ | ((first | refine Wo fun K hK => ?_ | refine Wq ?_ | refine Wr ?_); (try simp only [go_sem, fN, seval, eT, iR, h1, h3, h4]); (repeat refine Ai ?_); (try (refine hK _ ?_; clear hK K)))
  simp only [go_sem, fN, seval, AO, AS.result, AB, AD, AI, A7, h1, h3, h4]
  try simp
 ·have h1 : ¬ 97 ≤ n := by omega
  have h3 : 65 ≤ n := by omega
  have h4 : ¬ n ≤ 90 := by omega
  have h5 : 48 ≤ n := by omega
  have h6 : ¬ n ≤ 57 := by omega
  repeat' with_reducible first | refine W ?_ | refine Z0 ?_ | ((first | refine Wo fun K hK => ?_ | refine Wq ?_ | refine Wr ?_); (try simp only [go_sem, fN, seval, eT, iR, h1, h3, h4, h5, h6]); (repeat refine Ai ?_); (try (refine hK _ ?_; clear hK K)))
  simp only [go_sem, fN, seval, AO, AS.result, AB, AD, AI, A7, h1, h3, h4, h5, h6]
  try simp
 ·have h1 : ¬ 97 ≤ n := by omega
  have h3 : ¬ 65 ≤ n := by omega
  have h5 : 48 ≤ n := by omega
  have h6 : n ≤ 57 := by omega
  repeat' with_reducible first | refine W ?_ | refine Z0 ?_ | ((first | refine Wo fun K hK => ?_ | refine Wq ?_ | refine Wr ?_); (try simp only [go_sem, fN, seval, eT, iR, h1, h3, h5, h6]); (repeat refine Ai ?_); (try (refine hK _ ?_; clear hK K)))
  simp only [go_sem, fN, seval, AO, AS.result, AB, AD, AI, A7, h1, h3, h5, h6]
  try simp
 ·have h1 : ¬ 97 ≤ n := by omega
  have h3 : ¬ 65 ≤ n := by omega
  have h5 : 48 ≤ n := by omega
  have h6 : ¬ n ≤ 57 := by omega
  repeat' with_reducible first | refine W ?_ | refine Z0 ?_ | ((first | refine Wo fun K hK => ?_ | refine Wq ?_ | refine Wr ?_); (try simp only [go_sem, fN, seval, eT, iR, h1, h3, h5, h6]); (repeat refine Ai ?_); (try (refine hK _ ?_; clear hK K)))
  simp only [go_sem, fN, seval, AO, AS.result, AB, AD, AI, A7, h1, h3, h5, h6]
  try simp
 ·have h1 : ¬ 97 ≤ n := by omega
  have h3 : ¬ 65 ≤ n := by omega
  have h5 : ¬ 48 ≤ n := by omega
  repeat' with_reducible first | refine W ?_ | refine Z0 ?_ | ((first | refine Wo fun K hK => ?_ | refine Wq ?_ | refine Wr ?_); (try simp only [go_sem, fN, seval, eT, iR, h1, h3, h5]); (repeat refine Ai ?_); (try (refine hK _ ?_; clear hK K)))
  simp only [go_sem, fN, seval, AO, AS.result, AB, AD, AI, A7, h1, h3, h5]
  try simp
theorem GJ (n : Int) (h0 : 0 ≤ n) : Aa Tryd.prog 40 [.one (.st (.int .u8 n))] (Af (A7 n)) := by
 refine KD.ac fun C hC => ?_
 unfold F_
 have hc : (97 ≤ n ∧ n ≤ 122) ∨ (122 < n) ∨ (n < 97 ∧ 65 ≤ n ∧ n ≤ 90) ∨ (n < 97 ∧ 90 < n) ∨ (n < 65 ∧ 48 ≤ n ∧ n ≤ 57) ∨ (n < 65 ∧ 57 < n) ∨ (n < 48) := by omega
 rcases hc with h | h | h | h | h | h | h
 ·have h1 : 97 ≤ n := h.1
  have h2 : n ≤ 122 := h.2
  repeat' with_reducible first | refine W ?_ | refine Z0 ?_ | ((first | refine Wo fun K hK => ?_ | refine Wq ?_ | refine Wr ?_); (try simp only [go_sem, fN, seval, eT, iR, h1, h2]); (repeat refine Ai ?_); (try (refine hK _ ?_; clear hK K)))
  simp only [go_sem, fN, seval, AO, AS.result, AB, AD, AI, A7, h1, h2]
  try simp
 ·have h1 : 97 ≤ n := by omega
  have h2 : ¬ n ≤ 122 := by omega
  have h3 : 65 ≤ n := by omega
  have h4 : ¬ n ≤ 90 := by omega
  have h5 : 48 ≤ n := by omega
  have h6 : ¬ n ≤ 57 := by omega
  repeat' with_reducible first | refine W ?_ | refine Z0 ?_ | ((first | refine Wo fun K hK => ?_ | refine Wq ?_ | refine Wr ?_); (try simp only [go_sem, fN, seval, eT, iR, h1, h2, h3, h4, h5, h6]); (repeat refine Ai ?_); (try (refine hK _ ?_; clear hK K)))
  simp only [go_sem, fN, seval, AO, AS.result, AB, AD, AI, A7, h1, h2, h3, h4, h5, h6]
  try simp
 ·have h1 : ¬ 97 ≤ n := by omega
  have h3 : 65 ≤ n := by omega
  have h4 : n ≤ 90 := by omega
  repeat' with_reducible first | refine W ?_ | refine Z0 ?_ | ((first | refine Wo fun K hK => ?_ | refine Wq ?_ | refine Wr ?_); (try simp only [go_sem, fN, seval, eT, iR, h1, h3, h4]); (repeat refine Ai ?_); (try (refine hK _ ?_; clear hK K)))
  simp only [go_sem, fN, seval, AO, AS.result, AB, AD, AI, A7, h1, h3, h4]
  try simp
 ·have h1 : ¬ 97 ≤ n := by omega
  have h3 : 65 ≤ n := by omega
  have h4 : ¬ n ≤ 90 := by omega
  have h5 : 48 ≤ n := by omega
  have h6 : ¬ n ≤ 57 := by omega
  repeat' with_reducible first | refine W ?_ | refine Z0 ?_ | ((first | refine Wo fun K hK => ?_ | refine Wq ?_ | refine Wr ?_); (try simp only [go_sem, fN, seval, eT, iR, h1, h3, h4, h5, h6]); (repeat refine Ai ?_); (try (refine hK _ ?_; clear hK K)))
  simp only [go_sem, fN, seval, AO, AS.result, AB, AD, AI, A7, h1, h3, h4, h5, h6]
  try simp
 ·have h1 : ¬ 97 ≤ n := by omega
  have h3 : ¬ 65 ≤ n := by omega
  have h5 : 48 ≤ n := by omega
  have h6 : n ≤ 57 := by omega
  repeat' with_reducible first | refine W ?_ | refine Z0 ?_ | ((first | refine Wo fun K hK => ?_ | refine Wq ?_ | refine Wr ?_); (try simp only [go_sem, fN, seval, eT, iR, h1, h3, h5, h6]); (repeat refine Ai ?_); (try (refine hK _ ?_; clear hK K)))
  simp only [go_sem, fN, seval, AO, AS.result, AB, AD, AI, A7, h1, h3, h5, h6]
  try simp
 ·have h1 : ¬ 97 ≤ n := by omega
  have h3 : ¬ 65 ≤ n := by omega
  have h5 : 48 ≤ n := by omega
  have h6 : ¬ n ≤ 57 := by omega
  repeat' with_reducible first | refine W ?_ | refine Z0 ?_ | ((first | refine Wo fun K hK => ?_ | refine Wq ?_ | refine Wr ?_); (try simp only [go_sem, fN, seval, eT, iR, h1, h3, h5, h6]); (repeat refine Ai ?_); (try (refine hK _ ?_; clear hK K)))
  simp only [go_sem, fN, seval, AO, AS.result, AB, AD, AI, A7, h1, h3, h5, h6]
  try simp
 ·have h1 : ¬ 97 ≤ n := by omega
  have h3 : ¬ 65 ≤ n := by omega
  have h5 : ¬ 48 ≤ n := by omega
  repeat' with_reducible first | refine W ?_ | refine Z0 ?_ | ((first | refine Wo fun K hK => ?_ | refine Wq ?_ | refine Wr ?_); (try simp only [go_sem, fN, seval, eT, iR, h1, h3, h5]); (repeat refine Ai ?_); (try (refine hK _ ?_; clear hK K)))
  simp only [go_sem, fN, seval, AO, AS.result, AB, AD, AI, A7, h1, h3, h5]
  try simp
theorem Aj (s : ByteArray) : Aa Tryd.prog 21 [Bg s] (Af (AQ s)) := by
 by_cases h0 : s.size = 0
 ·have := I3 h0
  subst this
  refine ES.ac fun C hC => ?_
  unfold C9
  repeat' with_reducible first | refine W ?_ | refine Z0 ?_ | ((first | refine Wo fun K hK => ?_ | refine Wq ?_ | refine Wr ?_); (try simp only [go_sem, fN, seval, eT, iR]); (repeat refine Ai ?_); (try (refine hK _ ?_; clear hK K)))
  simp only [go_sem, fN, seval, AO, AS.result, AB, AD, AI]
  rfl
 ·have h1 := L4 h0
  have h2 : 0 < s.size := by omega
  refine ES.ac fun C hC => ?_
  unfold C9
  by_cases h3 : 65 ≤ Ac s 0 <;> by_cases h4 : Ac s 0 ≤ 90
  all_goals
   repeat' with_reducible first | refine W ?_ | refine Z0 ?_ | ((first | refine Wo fun K hK => ?_ | refine Wq ?_ | refine Wr ?_); (try simp only [go_sem, fN, seval, eT, iR, h1, h2, DO, h3, h4]); (repeat refine Ai ?_); (try (refine hK _ ?_; clear hK K)))
   simp only [go_sem, fN, seval, AO, AS.result, AB, AD, AI, AQ, h3, h4, h2]
   try simp
theorem O1 (s : ByteArray) : Aa Tryd.prog 42 [Bg s] (Af (AQ s)) := by
 by_cases h0 : s.size = 0
 ·have := I3 h0
  subst this
  refine JS.ac fun C hC => ?_
  unfold GW
  repeat' with_reducible first | refine W ?_ | refine Z0 ?_ | ((first | refine Wo fun K hK => ?_ | refine Wq ?_ | refine Wr ?_); (try simp only [go_sem, fN, seval, eT, iR]); (repeat refine Ai ?_); (try (refine hK _ ?_; clear hK K)))
  simp only [go_sem, fN, seval, AO, AS.result, AB, AD, AI]
  rfl
 ·have h1 := L4 h0
  have h2 : 0 < s.size := by omega
  refine JS.ac fun C hC => ?_
  unfold GW
  by_cases h3 : 65 ≤ Ac s 0 <;> by_cases h4 : Ac s 0 ≤ 90
  all_goals
   repeat' with_reducible first | refine W ?_ | refine Z0 ?_ | ((first | refine Wo fun K hK => ?_ | refine Wq ?_ | refine Wr ?_); (try simp only [go_sem, fN, seval, eT, iR, h1, h2, DO, h3, h4]); (repeat refine Ai ?_); (try (refine hK _ ?_; clear hK K)))
   simp only [go_sem, fN, seval, AO, AS.result, AB, AD, AI, AQ, h3, h4, h2]
   try simp
theorem KW (s : ByteArray) (h1 : 1 ≤ s.size) (h8 : s.size ≤ 8) (hd : ¬ (48 ≤ Ac s 0 ∧ Ac s 0 ≤ 57)) : A0 s = Bi s s.size := by
 unfold A0
 have : (decide (48 ≤ Ac s 0) && decide (Ac s 0 ≤ 57)) = false := by
  rw [Bool.and_eq_false_iff]
  simp
  omega
 rw [this]
 simp [h1, h8]
theorem HP (s : ByteArray) : Aa Tryd.prog 56 [Bg s] (Af (A0 s)) := by
 by_cases h0 : s.size < 1
 ·have e : A0 s = false := by simp [A0]; omega
  rw [e]
  have h0' : (s.size : Int) < 1 := by omega
  refine Da.ac fun C hC => ?_
  unfold C5
  repeat' with_reducible first | refine W ?_ | refine Z0 ?_ | ((first | refine Wo fun K hK => ?_ | refine Wq ?_ | refine Wr ?_); (try simp only [go_sem, fN, seval, eT, iR, h0']); (repeat refine Ai ?_); (try (refine hK _ ?_; clear hK K)))
  with_reducible refine Wp ?_
  simp only [go_sem, fN, seval, true_implies, false_implies, implies_true, dT, dF, nL, h0']
  (try with_reducible refine iC ?_)
  repeat' with_reducible first | refine W ?_ | refine Z0 ?_ | ((first | refine Wo fun K hK => ?_ | refine Wq ?_ | refine Wr ?_); (try simp only [go_sem, fN, seval, eT, iR]); (repeat refine Ai ?_); (try (refine hK _ ?_; clear hK K)))
  simp only [go_sem, fN, seval, AO, AS.result, AB, AD, AI]
 have h0' : ¬ (s.size : Int) < 1 := by omega
 by_cases h8 : 8 < s.size
 ·have e : A0 s = false := by simp [A0]; omega
  rw [e]
  have h8' : (8 : Int) < s.size := by omega
  refine Da.ac fun C hC => ?_
  unfold C5
  repeat' with_reducible first | refine W ?_ | refine Z0 ?_ | ((first | refine Wo fun K hK => ?_ | refine Wq ?_ | refine Wr ?_); (try simp only [go_sem, fN, seval, eT, iR, h0', h8']); (repeat refine Ai ?_); (try (refine hK _ ?_; clear hK K)))
  with_reducible refine Wp ?_
  simp only [go_sem, fN, seval, true_implies, false_implies, implies_true, dT, dF, nL, h0']
  (try with_reducible refine iC ?_)
  repeat' with_reducible first | refine W ?_ | refine Z0 ?_ | ((first | refine Wo fun K hK => ?_ | refine Wq ?_ | refine Wr ?_); (try simp only [go_sem, fN, seval, eT, iR]); (repeat refine Ai ?_); (try (refine hK _ ?_; clear hK K)))
  simp only [go_sem, fN, seval, AO, AS.result, AB, AD, AI]
 have h8' : ¬ (8 : Int) < s.size := by omega
 have hpos : 0 < s.size := by omega
 by_cases hd : 48 ≤ Ac s 0 ∧ Ac s 0 ≤ 57
 ·have e : A0 s = false := by simp [A0, hd.1, hd.2]
  rw [e]
  refine Da.ac fun C hC => ?_
  unfold C5
  repeat' with_reducible first | refine W ?_ | refine Z0 ?_ | ((first | refine Wo fun K hK => ?_ | refine Wq ?_ | refine Wr ?_); (try simp only [go_sem, fN, seval, eT, iR, h0', h8', hpos, DO, hd.1, hd.2]); (repeat refine Ai ?_); (try (refine hK _ ?_; clear hK K)))
  with_reducible refine Wp ?_
  simp only [go_sem, fN, seval, true_implies, false_implies, implies_true, dT, dF, nL, h0']
  (try with_reducible refine iC ?_)
  repeat' with_reducible first | refine W ?_ | refine Z0 ?_ | ((first | refine Wo fun K hK => ?_ | refine Wq ?_ | refine Wr ?_); (try simp only [go_sem, fN, seval, eT, iR]); (repeat refine Ai ?_); (try (refine hK _ ?_; clear hK K)))
  simp only [go_sem, fN, seval, AO, AS.result, AB, AD, AI]
 rw [KW s (by omega) (by omega) hd]
 have hd2 : (48 ≤ Ac s 0 ∧ ¬ Ac s 0 ≤ 57) ∨ (¬ 48 ≤ Ac s 0) := by omega
 refine Da.ac fun C hC => ?_
 unfold C5
 have h57 : 48 ≤ Ac s 0 → ¬ Ac s 0 ≤ 57 := fun h h' => hd ⟨h, h'⟩
 by_cases h48 : 48 ≤ Ac s 0
 all_goals
  simp only [h48, true_implies, false_implies] at h57
  repeat' with_reducible first | refine W ?_ | refine Z0 ?_ | ((first | refine Wo fun K hK => ?_ | refine Wq ?_ | refine Wr ?_); (try simp only [go_sem, fN, seval, eT, iR, h0', h8', hpos, DO, h48, h57]); (repeat refine Ai ?_); (try (refine hK _ ?_; clear hK K)))
  with_reducible refine Wp ?_
  simp only [go_sem, fN, seval, true_implies, false_implies, implies_true, dT, dF, nL, h0']
  (try with_reducible refine iC ?_)
  repeat' with_reducible first | refine W ?_ | refine Z0 ?_ | ((first | refine Wo fun K hK => ?_ | refine Wq ?_ | refine Wr ?_); (try simp only [go_sem, fN, seval, eT, iR]); (repeat refine Ai ?_); (try (refine hK _ ?_; clear hK K)))
  refine IWP.loop (fun m x => ∃ k, k ≤ s.size ∧ m = s.size - k ∧ Bi s k = true ∧ x.env 0 = Bg s ∧ x.env 23 = AR s.size ∧ x.env 24 = AR k) s.size ⟨0, Nat.zero_le _, rfl, rfl, rfl, rfl, rfl⟩ ?_
  rintro m ⟨env, S⟩ ⟨k, hk, rfl, hl, e0, e23, e24⟩
  simp only at e0 e23 e24
  repeat' with_reducible first | refine W ?_ | refine Z0 ?_ | ((first | refine Wo fun K hK => ?_ | refine Wq ?_ | refine Wr ?_); (try simp only [go_sem, fN, seval, eT, iR, e0, e23, e24]); (repeat refine Ai ?_); (try (refine hK _ ?_; clear hK K)))
  with_reducible refine Wp ?_
  simp only [go_sem, fN, seval, true_implies, false_implies, implies_true, dT, dF, nL, e0, e23, e24]
  (try with_reducible refine iC ?_)
  refine ⟨fun hlt => ?_, fun hge => ?_⟩
  ·have hlt' : k < s.size := by omega
   repeat' (first | (with_reducible first | refine W ?_ | refine Z0 ?_ | ((first | refine Wo fun K hK => ?_ | refine Wq ?_ | refine Wr ?_); (try simp only [go_sem, fN, seval, eT, iR, e0, e23, e24, hlt', DO]); (repeat refine Ai ?_); (try (refine hK _ ?_; clear hK K)))) | refine Cg _ (I1 _ (DZ s k).1) ?_)
   with_reducible refine Wp ?_
   simp only [go_sem, fN, seval, true_implies, false_implies, implies_true, dT, dF, nL]
   (try with_reducible refine iC ?_)
   refine ⟨fun hn => ?_, fun hn => ?_⟩
   ·repeat' with_reducible first | refine W ?_ | refine Z0 ?_ | ((first | refine Wo fun K hK => ?_ | refine Wq ?_ | refine Wr ?_); (try simp only [go_sem, fN, seval, eT, iR]); (repeat refine Ai ?_); (try (refine hK _ ?_; clear hK K)))
    simp only [go_sem, fN, seval, AO, AS.result, AB, AD, AI]
    rw [Gw s k hlt' (by simpa using hn)]
   ·repeat' with_reducible first | refine W ?_ | refine Z0 ?_ | ((first | refine Wo fun K hK => ?_ | refine Wq ?_ | refine Wr ?_); (try simp only [go_sem, fN, seval, eT, iR, e0, e23, e24]); (repeat refine Ai ?_); (try (refine hK _ ?_; clear hK K)))
    refine AG ⟨s.size - (k + 1), by omega, k + 1, by omega, rfl, ?_, ?_⟩
    ·rw [FZ s k hlt', hl]
     simpa using hn
    ·simp only [go_sem, fN, seval, eT, iR, e0, e23, e24]
     congr 3
  ·repeat' with_reducible first | refine W ?_ | refine Z0 ?_ | ((first | refine Wo fun K hK => ?_ | refine Wq ?_ | refine Wr ?_); (try simp only [go_sem, fN, seval, eT, iR]); (repeat refine Ai ?_); (try (refine hK _ ?_; clear hK K)))
   simp only [go_sem, fN, seval, AO, AS.result, AB, AD, AI]
   rw [show s.size = k by omega, hl]
theorem ED (s : ByteArray) : Aa Tryd.prog 41 [Bg s] (Af (A0 s)) := by
 by_cases h0 : s.size < 1
 ·have e : A0 s = false := by simp [A0]; omega
  rw [e]
  have h0' : s = ⟨#[]⟩ := I3 (by omega)
  subst h0'
  refine D5.ac fun C hC => ?_
  unfold DK
  repeat' with_reducible first | refine W ?_ | refine Z0 ?_ | ((first | refine Wo fun K hK => ?_ | refine Wq ?_ | refine Wr ?_); (try simp only [go_sem, fN, seval, eT, iR]); (repeat refine Ai ?_); (try (refine hK _ ?_; clear hK K)))
  with_reducible refine Wp ?_
  simp only [go_sem, fN, seval, true_implies, false_implies, implies_true, dT, dF, nL]
  (try with_reducible refine iC ?_)
  repeat' with_reducible first | refine W ?_ | refine Z0 ?_ | ((first | refine Wo fun K hK => ?_ | refine Wq ?_ | refine Wr ?_); (try simp only [go_sem, fN, seval, eT, iR]); (repeat refine Ai ?_); (try (refine hK _ ?_; clear hK K)))
  simp only [go_sem, fN, seval, AO, AS.result, AB, AD, AI]
 have h0' : ¬ s = ⟨#[]⟩ := L4 (by omega)
 by_cases h8 : 8 < s.size
 ·have e : A0 s = false := by simp [A0]; omega
  rw [e]
  have h8' : (8 : Int) < s.size := by omega
  refine D5.ac fun C hC => ?_
  unfold DK
  repeat' with_reducible first | refine W ?_ | refine Z0 ?_ | ((first | refine Wo fun K hK => ?_ | refine Wq ?_ | refine Wr ?_); (try simp only [go_sem, fN, seval, eT, iR, h0', h8']); (repeat refine Ai ?_); (try (refine hK _ ?_; clear hK K)))
  with_reducible refine Wp ?_
  simp only [go_sem, fN, seval, true_implies, false_implies, implies_true, dT, dF, nL, h0']
  (try with_reducible refine iC ?_)
  repeat' with_reducible first | refine W ?_ | refine Z0 ?_ | ((first | refine Wo fun K hK => ?_ | refine Wq ?_ | refine Wr ?_); (try simp only [go_sem, fN, seval, eT, iR]); (repeat refine Ai ?_); (try (refine hK _ ?_; clear hK K)))
  simp only [go_sem, fN, seval, AO, AS.result, AB, AD, AI]
 have h8' : ¬ (8 : Int) < s.size := by omega
 have hpos : 0 < s.size := by omega
 by_cases hd : 48 ≤ Ac s 0 ∧ Ac s 0 ≤ 57
 ·have e : A0 s = false := by simp [A0, hd.1, hd.2]
  rw [e]
  refine D5.ac fun C hC => ?_
  unfold DK
  repeat' with_reducible first | refine W ?_ | refine Z0 ?_ | ((first | refine Wo fun K hK => ?_ | refine Wq ?_ | refine Wr ?_); (try simp only [go_sem, fN, seval, eT, iR, h0', h8', hpos, DO, hd.1, hd.2]); (repeat refine Ai ?_); (try (refine hK _ ?_; clear hK K)))
  with_reducible refine Wp ?_
  simp only [go_sem, fN, seval, true_implies, false_implies, implies_true, dT, dF, nL, h0']
  (try with_reducible refine iC ?_)
  repeat' with_reducible first | refine W ?_ | refine Z0 ?_ | ((first | refine Wo fun K hK => ?_ | refine Wq ?_ | refine Wr ?_); (try simp only [go_sem, fN, seval, eT, iR]); (repeat refine Ai ?_); (try (refine hK _ ?_; clear hK K)))
  simp only [go_sem, fN, seval, AO, AS.result, AB, AD, AI]
 rw [KW s (by omega) (by omega) hd]
 refine D5.ac fun C hC => ?_
 unfold DK
 have h57 : 48 ≤ Ac s 0 → ¬ Ac s 0 ≤ 57 := fun h h' => hd ⟨h, h'⟩
 by_cases h48 : 48 ≤ Ac s 0
 all_goals
  simp only [h48, true_implies, false_implies] at h57
  repeat' with_reducible first | refine W ?_ | refine Z0 ?_ | ((first | refine Wo fun K hK => ?_ | refine Wq ?_ | refine Wr ?_); (try simp only [go_sem, fN, seval, eT, iR, h0', h8', hpos, DO, h48, h57]); (repeat refine Ai ?_); (try (refine hK _ ?_; clear hK K)))
  with_reducible refine Wp ?_
  simp only [go_sem, fN, seval, true_implies, false_implies, implies_true, dT, dF, nL, h0']
  (try with_reducible refine iC ?_)
  repeat' with_reducible first | refine W ?_ | refine Z0 ?_ | ((first | refine Wo fun K hK => ?_ | refine Wq ?_ | refine Wr ?_); (try simp only [go_sem, fN, seval, eT, iR]); (repeat refine Ai ?_); (try (refine hK _ ?_; clear hK K)))
  refine IWP.loop (fun m x => ∃ k, k ≤ s.size ∧ m = s.size - k ∧ Bi s k = true ∧ x.env 0 = Bg s ∧ x.env 3 = AR k) s.size ⟨0, Nat.zero_le _, rfl, rfl, rfl, rfl⟩ ?_
  rintro m ⟨env, S⟩ ⟨k, hk, rfl, hl, e0, e3⟩
  simp only at e0 e3
  repeat' with_reducible first | refine W ?_ | refine Z0 ?_ | ((first | refine Wo fun K hK => ?_ | refine Wq ?_ | refine Wr ?_); (try simp only [go_sem, fN, seval, eT, iR, e0, e3]); (repeat refine Ai ?_); (try (refine hK _ ?_; clear hK K)))
  with_reducible refine Wp ?_
  simp only [go_sem, fN, seval, true_implies, false_implies, implies_true, dT, dF, nL, e0, e3]
  (try with_reducible refine iC ?_)
  refine ⟨fun hlt => ?_, fun hge => ?_⟩
  ·have hlt' : k < s.size := by omega
   repeat' (first | (with_reducible first | refine W ?_ | refine Z0 ?_ | ((first | refine Wo fun K hK => ?_ | refine Wq ?_ | refine Wr ?_); (try simp only [go_sem, fN, seval, eT, iR, e0, e3, hlt', DO]); (repeat refine Ai ?_); (try (refine hK _ ?_; clear hK K)))) | refine Cg _ (GJ _ (DZ s k).1) ?_)
   with_reducible refine Wp ?_
   simp only [go_sem, fN, seval, true_implies, false_implies, implies_true, dT, dF, nL]
   (try with_reducible refine iC ?_)
   refine ⟨fun hn => ?_, fun hn => ?_⟩
   ·repeat' with_reducible first | refine W ?_ | refine Z0 ?_ | ((first | refine Wo fun K hK => ?_ | refine Wq ?_ | refine Wr ?_); (try simp only [go_sem, fN, seval, eT, iR]); (repeat refine Ai ?_); (try (refine hK _ ?_; clear hK K)))
    simp only [go_sem, fN, seval, AO, AS.result, AB, AD, AI]
    rw [Gw s k hlt' (by simpa using hn)]
   ·repeat' with_reducible first | refine W ?_ | refine Z0 ?_ | ((first | refine Wo fun K hK => ?_ | refine Wq ?_ | refine Wr ?_); (try simp only [go_sem, fN, seval, eT, iR, e0, e3]); (repeat refine Ai ?_); (try (refine hK _ ?_; clear hK K)))
    refine AG ⟨s.size - (k + 1), by omega, k + 1, by omega, rfl, ?_, ?_⟩
    ·rw [FZ s k hlt', hl]
     simpa using hn
    ·simp only [go_sem, fN, seval, eT, iR, e0, e3]
     congr 3
  ·repeat' with_reducible first | refine W ?_ | refine Z0 ?_ | ((first | refine Wo fun K hK => ?_ | refine Wq ?_ | refine Wr ?_); (try simp only [go_sem, fN, seval, eT, iR]); (repeat refine Ai ?_); (try (refine hK _ ?_; clear hK K)))
   simp only [go_sem, fN, seval, AO, AS.result, AB, AD, AI]
   rw [show s.size = k by omega, hl]
theorem RN (t : Tm) (m : Int) (h0 : 0 ≤ m) (h1 : m ≤ 9223372036854775807) : Aa Tryd.prog 35 [aTm t, AR m] (AR (CF t.size m)) := by
 induction h : SizeOf.sizeOf t using Nat.strongRecOn generalizing t m with
 | _ N ih =>
 subst h
 have hs := Tm.size_eq t
 refine JQ.ac fun C hC => ?_
 unfold FO
 refine IWP.learn 0 (by omega) fun hkn => ?_
 have hkn := JO hkn
 repeat' with_reducible first | refine W ?_ | refine Z0 ?_ | ((first | refine Wo fun K hK => ?_ | refine Wq ?_ | refine Wr ?_); (try simp only [go_sem, fN, seval, eT, iR]); (repeat refine Ai ?_); (try (refine hK _ ?_; clear hK K)))
 refine IWP.loopD [6] (fun n s => ∃ k, k ≤ t.args.length ∧ n = t.args.length - k ∧ s.env 1 = AR (CF (1 + Tm.sizes (t.args.take k)) m) ∧ s.env 10 = .one (.st (.list (t.args.map Ay))) ∧ s.env 11 = AR t.args.length ∧ s.env 12 = AR k ∧ s.S 6 = none) t.args.length ⟨0, Nat.zero_le _, rfl, by
  simp only [go_sem, fN, seval, eT, iR]
  rw [CF]
  have z0 : Tm.sizes [] = 0 := rfl
  congr 3
  split <;> omega, rfl, rfl, rfl, rfl⟩ ?_
 rintro n ⟨env, S⟩ ⟨k, hk, rfl, e1, e10, e11, e12, s6⟩
 simp only at e1 e10 e11 e12 s6
 repeat' with_reducible first | refine W ?_ | refine Z0 ?_ | ((first | refine Wo fun K hK => ?_ | refine Wq ?_ | refine Wr ?_); (try simp only [go_sem, fN, seval, eT, iR, e1, e10, e11, e12, s6]); (repeat refine Ai ?_); (try (refine hK _ ?_; clear hK K)))
 with_reducible refine Wp ?_
 simp only [go_sem, fN, seval, true_implies, false_implies, implies_true, dT, dF, nL, e1, e10, e11, e12, s6]
 (try with_reducible refine iC ?_)
 refine ⟨fun hlt => ?_, fun hge => ?_⟩
 ·obtain ⟨a, ha⟩ := Ao (show k < t.args.length by omega)
  have z1 := Tm.sizes_take ha
  have z2 := Tm.sizes_take_le t.args (k + 1)
  have z3 := Tm.length_le t.args
  have z4 := Qp (1 + Tm.sizes (t.args.take k)) m h0
  repeat' with_reducible first | refine W ?_ | refine Z0 ?_ | ((first | refine Wo fun K hK => ?_ | refine Wq ?_ | refine Wr ?_); (try simp only [go_sem, fN, seval, eT, iR, e1, e10, e11, e12, s6, ha]); (repeat refine Ai ?_); (try (refine hK _ ?_; clear hK K)))
  with_reducible refine Wp ?_
  simp only [go_sem, fN, seval, true_implies, false_implies, implies_true, dT, dF, nL, e1]
  (try with_reducible refine iC ?_)
  refine ⟨fun hb => ?_, fun hb => ?_⟩
  ·repeat' with_reducible first | refine W ?_ | refine Z0 ?_ | ((first | refine Wo fun K hK => ?_ | refine Wq ?_ | refine Wr ?_); (try simp only [go_sem, fN, seval, eT, iR, e1]); (repeat refine Ai ?_); (try (refine hK _ ?_; clear hK K)))
   simp only [go_sem, fN, seval, AO, AS.result, AB, AD, AI, e1]
   rw [Oc hb (show _ ≤ t.size by rw [hs]; omega)]
  ·repeat' (first | (with_reducible first | refine W ?_ | refine Z0 ?_ | ((first | refine Wo fun K hK => ?_ | refine Wq ?_ | refine Wr ?_); (try simp only [go_sem, fN, seval, eT, iR, e1, e10, e11, e12, s6, ha]); (repeat refine Ai ?_); (try (refine hK _ ?_; clear hK K)))) | refine Cg _ (ih _ (Tm.lt_of_arg (AW ha)) a _ (by omega) (by omega) rfl) ?_)
   refine AG ⟨t.args.length - (k + 1), by omega, k + 1, by omega, rfl, ?_⟩
   simp only [go_sem, fN, seval, AS.drop, Ap, AC.clears, AC.clear, AC.highs, AC.high, Bool.not_false, Bool.true_and, Bool.and_self, AV.purge, AV.purges, AC.purge, AJ.purge, List.contains_cons, List.contains_nil, Nat.reduceBEq, Bool.or_self, Bool.or_false, Bool.false_or, Bool.or_true, eT, iR, e1, e10, e11, e12, s6]
   exact ⟨by rw [ME (by omega), z1]; congr 4; omega, by congr 3⟩
 ·repeat' with_reducible first | refine W ?_ | refine Z0 ?_ | ((first | refine Wo fun K hK => ?_ | refine Wq ?_ | refine Wr ?_); (try simp only [go_sem, fN, seval, eT, iR, e1]); (repeat refine Ai ?_); (try (refine hK _ ?_; clear hK K)))
  simp only [go_sem, fN, seval, AO, AS.result, AB, AD, AI, e1]
  rw [List.take_of_length_le (by omega), hs]
theorem TM (t : Tm) : Aa Tryd.prog 36 [aTm t] (AR t.chk) := by
 induction h : SizeOf.sizeOf t using Nat.strongRecOn generalizing t with
 | _ N ih =>
 subst h
 have hc := Tm.chk_eq t
 have hc1 : CE t = if A0 t.name = true then (if AQ t.name = true ∧ 0 < t.args.length then 2 else 0) else 1 := rfl
 refine Jt.ac fun C hC => ?_
 unfold F7
 refine IWP.learn 0 (by omega) fun hkn => ?_
 have hkn := JO hkn
 repeat' with_reducible first | refine W ?_ | refine Z0 ?_ | ((first | refine Wo fun K hK => ?_ | refine Wq ?_ | refine Wr ?_); (try simp only [go_sem, fN, seval, eT, iR]); (repeat refine Ai ?_); (try (refine hK _ ?_; clear hK K)))
 refine ⟨_, HP _, ?_⟩
 cases hn : A0 t.name with
 | false =>
  rw [hn, if_neg (by simp)] at hc1
  repeat' with_reducible first | refine W ?_ | refine Z0 ?_ | ((first | refine Wo fun K hK => ?_ | refine Wq ?_ | refine Wr ?_); (try simp only [go_sem, fN, seval, eT, iR]); (repeat refine Ai ?_); (try (refine hK _ ?_; clear hK K)))
  with_reducible refine Wp ?_
  simp only [go_sem, fN, seval, true_implies, false_implies, implies_true, dT, dF, nL]
  (try with_reducible refine iC ?_)
  repeat' with_reducible first | refine W ?_ | refine Z0 ?_ | ((first | refine Wo fun K hK => ?_ | refine Wq ?_ | refine Wr ?_); (try simp only [go_sem, fN, seval, eT, iR]); (repeat refine Ai ?_); (try (refine hK _ ?_; clear hK K)))
  simp only [go_sem, fN, seval, AO, AS.result, AB, AD, AI]
  rw [hc, hc1]
  rfl
 | true =>
  rw [hn, if_pos rfl] at hc1
  repeat' with_reducible first | refine W ?_ | refine Z0 ?_ | ((first | refine Wo fun K hK => ?_ | refine Wq ?_ | refine Wr ?_); (try simp only [go_sem, fN, seval, eT, iR]); (repeat refine Ai ?_); (try (refine hK _ ?_; clear hK K)))
  with_reducible refine Wp ?_
  simp only [go_sem, fN, seval, true_implies, false_implies, implies_true, dT, dF, nL]
  (try with_reducible refine iC ?_)
  repeat' with_reducible first | refine W ?_ | refine Z0 ?_ | ((first | refine Wo fun K hK => ?_ | refine Wq ?_ | refine Wr ?_); (try simp only [go_sem, fN, seval, eT, iR]); (repeat refine Ai ?_); (try (refine hK _ ?_; clear hK K)))
  refine ⟨_, Aj _, ?_⟩
  by_cases hv : AQ t.name = true ∧ 0 < t.args.length
  ·obtain ⟨hv1, hv2⟩ := hv
   have hv2' : (0 : Int) < t.args.length := by omega
   rw [if_pos ⟨hv1, hv2⟩] at hc1
   rw [hv1]
   repeat' with_reducible first | refine W ?_ | refine Z0 ?_ | ((first | refine Wo fun K hK => ?_ | refine Wq ?_ | refine Wr ?_); (try simp only [go_sem, fN, seval, eT, iR, hv2']); (repeat refine Ai ?_); (try (refine hK _ ?_; clear hK K)))
   with_reducible refine Wp ?_
   simp only [go_sem, fN, seval, true_implies, false_implies, implies_true, dT, dF, nL, hv2']
   (try with_reducible refine iC ?_)
   repeat' with_reducible first | refine W ?_ | refine Z0 ?_ | ((first | refine Wo fun K hK => ?_ | refine Wq ?_ | refine Wr ?_); (try simp only [go_sem, fN, seval, eT, iR]); (repeat refine Ai ?_); (try (refine hK _ ?_; clear hK K)))
   simp only [go_sem, fN, seval, AO, AS.result, AB, AD, AI]
   rw [hc, hc1]
   rfl
  ·rw [if_neg hv] at hc1
   rw [if_pos hc1] at hc
   have hv2 : AQ t.name = true → ¬ (0 : Int) < t.args.length := fun h h' => hv ⟨h, by omega⟩
   cases hvv : AQ t.name
   all_goals
    simp only [hvv, true_implies, false_implies, Bool.false_eq_true] at hv2
    repeat' with_reducible first | refine W ?_ | refine Z0 ?_ | ((first | refine Wo fun K hK => ?_ | refine Wq ?_ | refine Wr ?_); (try simp only [go_sem, fN, seval, eT, iR, hv2]); (repeat refine Ai ?_); (try (refine hK _ ?_; clear hK K)))
    with_reducible refine Wp ?_
    simp only [go_sem, fN, seval, true_implies, false_implies, implies_true, dT, dF, nL, hv2]
    (try with_reducible refine iC ?_)
    repeat' with_reducible first | refine W ?_ | refine Z0 ?_ | ((first | refine Wo fun K hK => ?_ | refine Wq ?_ | refine Wr ?_); (try simp only [go_sem, fN, seval, eT, iR]); (repeat refine Ai ?_); (try (refine hK _ ?_; clear hK K)))
    refine IWP.loopD [4] (fun n s => ∃ k, k ≤ t.args.length ∧ n = t.args.length - k ∧ Tm.chkL (t.args.take k) = 0 ∧ s.env 20 = .one (.st (.list (t.args.map Ay))) ∧ s.env 21 = AR t.args.length ∧ s.env 22 = AR k ∧ s.S 4 = none) t.args.length ⟨0, Nat.zero_le _, rfl, rfl, rfl, rfl, rfl, rfl⟩ ?_
    rintro n ⟨env, S⟩ ⟨k, hk, rfl, h0, e20, e21, e22, s4⟩
    simp only at e20 e21 e22 s4
    repeat' with_reducible first | refine W ?_ | refine Z0 ?_ | ((first | refine Wo fun K hK => ?_ | refine Wq ?_ | refine Wr ?_); (try simp only [go_sem, fN, seval, eT, iR, e20, e21, e22, s4]); (repeat refine Ai ?_); (try (refine hK _ ?_; clear hK K)))
    with_reducible refine Wp ?_
    simp only [go_sem, fN, seval, true_implies, false_implies, implies_true, dT, dF, nL, e20, e21, e22, s4]
    (try with_reducible refine iC ?_)
    refine ⟨fun hlt => ?_, fun hge => ?_⟩
    ·obtain ⟨a, ha⟩ := Ao (show k < t.args.length by omega)
     obtain ⟨g1, g2⟩ := Tm.chkL_get ha h0
     repeat' (first | (with_reducible first | refine W ?_ | refine Z0 ?_ | ((first | refine Wo fun K hK => ?_ | refine Wq ?_ | refine Wr ?_); (try simp only [go_sem, fN, seval, eT, iR, e20, e21, e22, s4, ha]); (repeat refine Ai ?_); (try (refine hK _ ?_; clear hK K)))) | refine Cg _ (ih _ (Tm.lt_of_arg (AW ha)) a rfl) ?_)
     with_reducible refine Wp ?_
     simp only [go_sem, fN, seval, true_implies, false_implies, implies_true, dT, dF, nL]
     (try with_reducible refine iC ?_)
     refine ⟨fun hb => ?_, fun hb => ?_⟩
     ·repeat' with_reducible first | refine W ?_ | refine Z0 ?_ | ((first | refine Wo fun K hK => ?_ | refine Wq ?_ | refine Wr ?_); (try simp only [go_sem, fN, seval, eT, iR]); (repeat refine Ai ?_); (try (refine hK _ ?_; clear hK K)))
      simp only [go_sem, fN, seval, AO, AS.result, AB, AD, AI]
      rw [hc, g2 hb]
     ·repeat' with_reducible first | refine W ?_ | refine Z0 ?_ | ((first | refine Wo fun K hK => ?_ | refine Wq ?_ | refine Wr ?_); (try simp only [go_sem, fN, seval, eT, iR, e20, e21, e22, s4]); (repeat refine Ai ?_); (try (refine hK _ ?_; clear hK K)))
      refine AG ⟨t.args.length - (k + 1), by omega, k + 1, by omega, rfl, g1 (by omega), ?_⟩
      simp only [go_sem, fN, seval, AS.drop, Ap, AC.clears, AC.clear, AC.highs, AC.high, Bool.not_false, Bool.true_and, Bool.and_self, AV.purge, AV.purges, AC.purge, AJ.purge, List.contains_cons, List.contains_nil, Nat.reduceBEq, Bool.or_self, Bool.or_false, Bool.false_or, Bool.or_true, eT, iR, e20, e21, e22, s4]
      congr 3
    ·repeat' with_reducible first | refine W ?_ | refine Z0 ?_ | ((first | refine Wo fun K hK => ?_ | refine Wq ?_ | refine Wr ?_); (try simp only [go_sem, fN, seval, eT, iR]); (repeat refine Ai ?_); (try (refine hK _ ?_; clear hK K)))
     simp only [go_sem, fN, seval, AO, AS.result, AB, AD, AI]
     rw [List.take_of_length_le (by omega)] at h0
     rw [hc, h0]
theorem Cv (t : Tm) : Aa Tryd.prog 15 [aTm t] (AR t.may) := by
 have hm : t.may = if 200 < t.size then 3 else t.chk := rfl
 refine Jv.ac fun C hC => ?_
 unfold GD
 repeat' with_reducible first | refine W ?_ | refine Z0 ?_ | ((first | refine Wo fun K hK => ?_ | refine Wq ?_ | refine Wr ?_); (try simp only [go_sem, fN, seval, eT, iR]); (repeat refine Ai ?_); (try (refine hK _ ?_; clear hK K)))
 refine ⟨_, RN t 200 (by omega) (by omega), ?_⟩
 by_cases h : CF t.size 200 < 0
 ·repeat' with_reducible first | refine W ?_ | refine Z0 ?_ | ((first | refine Wo fun K hK => ?_ | refine Wq ?_ | refine Wr ?_); (try simp only [go_sem, fN, seval, eT, iR, h]); (repeat refine Ai ?_); (try (refine hK _ ?_; clear hK K)))
  with_reducible refine Wp ?_
  simp only [go_sem, fN, seval, true_implies, false_implies, implies_true, dT, dF, nL, h]
  (try with_reducible refine iC ?_)
  repeat' with_reducible first | refine W ?_ | refine Z0 ?_ | ((first | refine Wo fun K hK => ?_ | refine Wq ?_ | refine Wr ?_); (try simp only [go_sem, fN, seval, eT, iR]); (repeat refine Ai ?_); (try (refine hK _ ?_; clear hK K)))
  simp only [go_sem, fN, seval, AO, AS.result, AB, AD, AI]
  unfold CF at h
  rw [hm, if_pos (by split at h <;> omega)]
 ·repeat' with_reducible first | refine W ?_ | refine Z0 ?_ | ((first | refine Wo fun K hK => ?_ | refine Wq ?_ | refine Wr ?_); (try simp only [go_sem, fN, seval, eT, iR, h]); (repeat refine Ai ?_); (try (refine hK _ ?_; clear hK K)))
  with_reducible refine Wp ?_
  simp only [go_sem, fN, seval, true_implies, false_implies, implies_true, dT, dF, nL, h]
  (try with_reducible refine iC ?_)
  repeat' (first | (with_reducible first | refine W ?_ | refine Z0 ?_ | ((first | refine Wo fun K hK => ?_ | refine Wq ?_ | refine Wr ?_); (try simp only [go_sem, fN, seval, eT, iR]); (repeat refine Ai ?_); (try (refine hK _ ?_; clear hK K)))) | refine Cg _ (TM t) ?_)
  simp only [go_sem, fN, seval, AO, AS.result, AB, AD, AI]
  unfold CF at h
  rw [hm, if_neg (by split at h <;> omega)]
def Bm (a b : Tm) : Int := if a.may = 0 then b.may else a.may
theorem TG (l : List ByteArray) (x : ByteArray) : ∃ i : Int, Aa Tryd.prog 45 [Fz l, Bg x] (AR i) ∧ (0 ≤ i ↔ C6 x l = true) := by
 by_cases hin : C6 x l = true
 ·obtain ⟨k0, hk0, hmin⟩ : ∃ k, l[k]? = some x ∧ ∀ j, j < k → l[j]? ≠ some x := by
   have hx := GY.1 hin
   have ⟨k, hk⟩ := List.getElem?_of_mem hx
   induction k using Nat.strongRecOn with
   | _ k ih =>
    by_cases h : ∃ j, j < k ∧ l[j]? = some x
    ·obtain ⟨j, hj, hjx⟩ := h
     exact ih j hj hjx
    ·exact ⟨k, hk, fun j hj hjx => h ⟨j, hj, hjx⟩⟩
  have hlt0 := CP hk0
  refine ⟨k0, ?_, by simp [hin]⟩
  refine B7.ac fun C hC => ?_
  unfold BX
  refine IWP.learn 0 (by omega) fun hkn => ?_
  have hkn := HA hkn
  rw [List.length_map] at hkn
  repeat' with_reducible first | refine W ?_ | refine Z0 ?_ | ((first | refine Wo fun K hK => ?_ | refine Wq ?_ | refine Wr ?_); (try simp only [go_sem, fN, seval, eT, iR]); (repeat refine Ai ?_); (try (refine hK _ ?_; clear hK K)))
  refine IWP.loop (fun n s => ∃ k, k ≤ k0 ∧ n = k0 - k ∧ s.env 0 = Fz l ∧ s.env 1 = Bg x ∧ s.env 7 = AR l.length ∧ s.env 8 = AR k) k0 ⟨0, Nat.zero_le _, rfl, rfl, rfl, rfl, rfl⟩ ?_
  rintro n ⟨env, S⟩ ⟨k, hk, rfl, e0, e1, e7, e8⟩
  simp only at e0 e1 e7 e8
  have hlt : (k : Int) < l.length := by omega
  repeat' with_reducible first | refine W ?_ | refine Z0 ?_ | ((first | refine Wo fun K hK => ?_ | refine Wq ?_ | refine Wr ?_); (try simp only [go_sem, fN, seval, eT, iR, e0, e1, e7, e8, hlt]); (repeat refine Ai ?_); (try (refine hK _ ?_; clear hK K)))
  with_reducible refine Wp ?_
  simp only [go_sem, fN, seval, true_implies, false_implies, implies_true, dT, dF, nL, e0, e1, e7, e8, hlt]
  (try with_reducible refine iC ?_)
  obtain ⟨a, ha⟩ := Ao (show k < l.length by omega)
  repeat' with_reducible first | refine W ?_ | refine Z0 ?_ | ((first | refine Wo fun K hK => ?_ | refine Wq ?_ | refine Wr ?_); (try simp only [go_sem, fN, seval, eT, iR, e0, e1, e7, e8, ha]); (repeat refine Ai ?_); (try (refine hK _ ?_; clear hK K)))
  by_cases he : k = k0
  ·subst he
   rw [hk0] at ha
   cases ha
   with_reducible refine Wp ?_
   simp only [go_sem, fN, seval, true_implies, false_implies, implies_true, dT, dF, nL]
   (try with_reducible refine iC ?_)
   repeat' with_reducible first | refine W ?_ | refine Z0 ?_ | ((first | refine Wo fun K hK => ?_ | refine Wq ?_ | refine Wr ?_); (try simp only [go_sem, fN, seval, eT, iR, e0, e1, e7, e8]); (repeat refine Ai ?_); (try (refine hK _ ?_; clear hK K)))
   simp only [go_sem, fN, seval, AO, AS.result, AB, AD, AI]
  ·have hne : ¬ x = a := fun e => hmin k (by omega) (by rw [ha, e])
   with_reducible refine Wp ?_
   simp only [go_sem, fN, seval, true_implies, false_implies, implies_true, dT, dF, nL, hne]
   (try with_reducible refine iC ?_)
   repeat' with_reducible first | refine W ?_ | refine Z0 ?_ | ((first | refine Wo fun K hK => ?_ | refine Wq ?_ | refine Wr ?_); (try simp only [go_sem, fN, seval, eT, iR, e0, e1, e7, e8]); (repeat refine Ai ?_); (try (refine hK _ ?_; clear hK K)))
   refine AG ⟨k0 - (k + 1), by omega, k + 1, by omega, rfl, ?_⟩
   simp only [go_sem, fN, seval, eT, iR, e0, e1, e7, e8]
   congr 3
 ·rw [Bool.not_eq_true] at hin
  refine ⟨-1, ?_, by simp [hin]⟩
  refine B7.ac fun C hC => ?_
  unfold BX
  refine IWP.learn 0 (by omega) fun hkn => ?_
  have hkn := HA hkn
  rw [List.length_map] at hkn
  repeat' with_reducible first | refine W ?_ | refine Z0 ?_ | ((first | refine Wo fun K hK => ?_ | refine Wq ?_ | refine Wr ?_); (try simp only [go_sem, fN, seval, eT, iR]); (repeat refine Ai ?_); (try (refine hK _ ?_; clear hK K)))
  refine IWP.loop (fun n s => ∃ k, k ≤ l.length ∧ n = l.length - k ∧ s.env 0 = Fz l ∧ s.env 1 = Bg x ∧ s.env 7 = AR l.length ∧ s.env 8 = AR k) l.length ⟨0, Nat.zero_le _, rfl, rfl, rfl, rfl, rfl⟩ ?_
  rintro n ⟨env, S⟩ ⟨k, hk, rfl, e0, e1, e7, e8⟩
  simp only at e0 e1 e7 e8
  by_cases hlt : (k : Int) < l.length
  ·repeat' with_reducible first | refine W ?_ | refine Z0 ?_ | ((first | refine Wo fun K hK => ?_ | refine Wq ?_ | refine Wr ?_); (try simp only [go_sem, fN, seval, eT, iR, e0, e1, e7, e8, hlt]); (repeat refine Ai ?_); (try (refine hK _ ?_; clear hK K)))
   with_reducible refine Wp ?_
   simp only [go_sem, fN, seval, true_implies, false_implies, implies_true, dT, dF, nL, e0, e1, e7, e8, hlt]
   (try with_reducible refine iC ?_)
   obtain ⟨a, ha⟩ := Ao (show k < l.length by omega)
   have hne : ¬ x = a := fun e => by
    rw [LN] at hin
    exact hin (by rw [e]; exact AW ha)
   repeat' with_reducible first | refine W ?_ | refine Z0 ?_ | ((first | refine Wo fun K hK => ?_ | refine Wq ?_ | refine Wr ?_); (try simp only [go_sem, fN, seval, eT, iR, e0, e1, e7, e8, ha]); (repeat refine Ai ?_); (try (refine hK _ ?_; clear hK K)))
   with_reducible refine Wp ?_
   simp only [go_sem, fN, seval, true_implies, false_implies, implies_true, dT, dF, nL, hne]
   (try with_reducible refine iC ?_)
   repeat' with_reducible first | refine W ?_ | refine Z0 ?_ | ((first | refine Wo fun K hK => ?_ | refine Wq ?_ | refine Wr ?_); (try simp only [go_sem, fN, seval, eT, iR, e0, e1, e7, e8]); (repeat refine Ai ?_); (try (refine hK _ ?_; clear hK K)))
   refine AG ⟨l.length - (k + 1), by omega, k + 1, by omega, rfl, ?_⟩
   simp only [go_sem, fN, seval, eT, iR, e0, e1, e7, e8]
   congr 3
  ·repeat' with_reducible first | refine W ?_ | refine Z0 ?_ | ((first | refine Wo fun K hK => ?_ | refine Wq ?_ | refine Wr ?_); (try simp only [go_sem, fN, seval, eT, iR, e0, e1, e7, e8, hlt]); (repeat refine Ai ?_); (try (refine hK _ ?_; clear hK K)))
   with_reducible refine Wp ?_
   simp only [go_sem, fN, seval, true_implies, false_implies, implies_true, dT, dF, nL, e0, e1, e7, e8, hlt]
   (try with_reducible refine iC ?_)
   repeat' with_reducible first | refine W ?_ | refine Z0 ?_ | ((first | refine Wo fun K hK => ?_ | refine Wq ?_ | refine Wr ?_); (try simp only [go_sem, fN, seval, eT, iR]); (repeat refine Ai ?_); (try (refine hK _ ?_; clear hK K)))
   simp only [go_sem, fN, seval, AO, AS.result, AB, AD, AI]
theorem GU (l : List ByteArray) (x : ByteArray) : Aa Tryd.prog 25 [Fz l, Bg x] (Af (C6 x l)) := by
 obtain ⟨i, h1, h2⟩ := TG l x
 refine Cu.ac fun C hC => ?_
 unfold Bs
 repeat' (first | (with_reducible first | refine W ?_ | refine Z0 ?_ | ((first | refine Wo fun K hK => ?_ | refine Wq ?_ | refine Wr ?_); (try simp only [go_sem, fN, seval, eT, iR]); (repeat refine Ai ?_); (try (refine hK _ ?_; clear hK K)))) | refine Cg _ (h1) ?_)
 simp only [go_sem, fN, seval, AO, AS.result, AB, AD, AI]
 congr 4
 cases hi : C6 x l with
 | true => exact decide_eq_true (h2.2 hi)
 | false =>
  refine decide_eq_false fun h => ?_
  rw [h2.1 h] at hi
  cases hi
mutual
def Tm.beq : Tm → Tm → Bool
 | .mk n xs, .mk m ys => decide (n = m) && Tm.beqL xs ys
def Tm.beqL : List Tm → List Tm → Bool
 | [], [] => true
 | x :: xs, y :: ys => x.beq y && Tm.beqL xs ys
 | _, _ => false
end
mutual
theorem Tm.beq_iff : ∀ a b : Tm, a.beq b = true ↔ a = b
 | .mk n xs, .mk m ys => by
  rw [Tm.beq, Bool.and_eq_true, Tm.beqL_iff xs ys, decide_eq_true_eq, Tm.mk.injEq]
theorem Tm.beqL_iff : ∀ xs ys : List Tm, Tm.beqL xs ys = true ↔ xs = ys
 | [], [] => by simp [Tm.beqL]
 | x :: xs, y :: ys => by rw [Tm.beqL, Bool.and_eq_true, Tm.beq_iff x y, Tm.beqL_iff xs ys, List.cons.injEq]
 | [], y :: ys => by simp [Tm.beqL]
 | x :: xs, [] => by simp [Tm.beqL]
end
theorem Tm.beq_refl (a : Tm) : a.beq a = true := (Tm.beq_iff a a).2 rfl
def Tm.nil : Tm := .mk ⟨#[]⟩ []

theorem QO {ts : List ByteArray} : ∀ x ∈ ts.map Eb, x.length = 1 := by
 intro x hx
 obtain ⟨a, _, rfl⟩ := List.mem_map.1 hx
 rfl
theorem GO {α : Type} (f : Nat → α) (i : Nat) (a b : α) : AH (AH f i a) i b = AH f i b := by
 funext k
 unfold AH
 split <;> rfl
theorem LG {α : Type} (f : Nat → α) {i j : Nat} (h : ¬ i = j) (a b : α) : AH (AH f i a) j b = AH (AH f j b) i a := by
 funext k
 unfold AH
 split
 ·rename_i e
  subst e
  rw [if_neg (fun e => h e.symm)]
 ·rfl
theorem LB (t : Tm) (hz : t.size ≤ 1000000)
  (ih : ∀ a ∈ t.args, ∀ (i : Nat) (l : List ByteArray) (S : AA), 1000 ≤ i → l.length + a.size ≤ 3000000 → S i = some (.arow 9 1 (l.map Eb)) →
   Am Tryd.prog 43 [aTm a, .one (.row i l.length)] S (.one (.row i (Al l a.knots).length)) (AH S i (some (.arow 9 1 ((Al l a.knots).map Eb)))))
  (C : Ctx) (hC : C.n = 34) (i : Nat) (hi : 20 < i) (l : List ByteArray) (hlz : l.length + t.size ≤ 3000000) (S : AA) (hS : At S) (env : Nat → AV) (e0 : env 0 = aTm t) (e1 : env 1 = .one (.row i l.length))
  (Q : AX → AS → Prop) (hQ : ∀ env', env' 4 = .one (.row i (Al l t.knots).length) → Q .ret ⟨env', AH (AH S 2 (some (.box 32 [.st (.str t.name), .st (.list (t.args.map Ay))]))) i (some (.arow 9 1 ((Al l t.knots).map Eb)))⟩) :
  IWP Tryd.prog C [31] El Q ⟨env, AH S i (some (.arow 9 1 (l.map Eb)))⟩ := by
 have hs := Tm.size_eq t
 have hk := Tm.knots_eq t
 have hc2 := AM hS (i := 2) (by omega)
 have hc6 := AM hS (i := 6) (by omega)
 have hi2 : ¬ 2 = i := by omega
 have hi6 : ¬ 6 = i := by omega
 have hi2' : ¬ i = 2 := by omega
 have hi6' : ¬ i = 6 := by omega
 unfold El
 have hlk : ∀ k, (Al (Bb l t.name) (Tm.knotsL (t.args.take k))).length ≤ l.length + 1 + Tm.sizes (t.args.take k) := fun k => by
  have h1 := C3 (Tm.knotsL (t.args.take k)) (Bb l t.name)
  have h2 := F3 l t.name
  have h3 := Tm.knotsL_length (t.args.take k)
  omega
 repeat' with_reducible first | refine W ?_ | refine Z0 ?_ | ((first | refine Wo fun K hK => ?_ | refine Wq ?_ | refine Wr ?_); (try simp only [go_sem, fN, seval, eT, iR, e0, e1, hc2, hi2, hi6, hi2', hi6']); (repeat refine Ai ?_); (try (refine hK _ ?_; clear hK K)))
 refine ⟨_, Aj _, ?_⟩
 rcases (show AQ t.name = false ∨ (AQ t.name = true ∧ C6 t.name l = true) ∨ (AQ t.name = true ∧ C6 t.name l = false) by cases AQ t.name <;> cases C6 t.name l <;> simp) with hv | ⟨hv, hin⟩ | ⟨hv, hin⟩
 case' inl =>
  have hl1 := K6 (l := l) hv
  repeat' with_reducible first | refine W ?_ | refine Z0 ?_ | ((first | refine Wo fun K hK => ?_ | refine Wq ?_ | refine Wr ?_); (try simp only [go_sem, fN, seval, eT, iR, e0, e1, hv, hi2, hi2']); (repeat refine Ai ?_); (try (refine hK _ ?_; clear hK K)))
  with_reducible refine Wp ?_
  simp only [go_sem, fN, seval, true_implies, false_implies, implies_true, dT, dF, nL, hv]
  (try with_reducible refine iC ?_)
  repeat' with_reducible first | refine W ?_ | refine Z0 ?_ | ((first | refine Wo fun K hK => ?_ | refine Wq ?_ | refine Wr ?_); (try simp only [go_sem, fN, seval, eT, iR, e0, e1, hi2, hi2']); (repeat refine Ai ?_); (try (refine hK _ ?_; clear hK K)))
 case' inr.inl =>
  have hl1 := Ky (l := l) hin
  repeat' (first | (with_reducible first | refine W ?_ | refine Z0 ?_ | ((first | refine Wo fun K hK => ?_ | refine Wq ?_ | refine Wr ?_); (try simp only [go_sem, fN, seval, eT, iR, e0, e1, hv, hi2, hi2', hin]); (repeat refine Ai ?_); (try (refine hK _ ?_; clear hK K)))) | refine Cg _ (GU _ _) ?_)
  with_reducible refine Wp ?_
  simp only [go_sem, fN, seval, true_implies, false_implies, implies_true, dT, dF, nL, hv]
  (try with_reducible refine iC ?_)
  repeat' with_reducible first | refine W ?_ | refine Z0 ?_ | ((first | refine Wo fun K hK => ?_ | refine Wq ?_ | refine Wr ?_); (try simp only [go_sem, fN, seval, eT, iR, e0, e1, hi2, hi2']); (repeat refine Ai ?_); (try (refine hK _ ?_; clear hK K)))
 case' inr.inr =>
  have hl1 := JY (l := l) hv hin
  repeat' (first | (with_reducible first | refine W ?_ | refine Z0 ?_ | ((first | refine Wo fun K hK => ?_ | refine Wq ?_ | refine Wr ?_); (try simp only [go_sem, fN, seval, eT, iR, e0, e1, hv, hi2, hi2', hin]); (repeat refine Ai ?_); (try (refine hK _ ?_; clear hK K)))) | refine Cg _ (GU _ _) ?_)
  with_reducible refine Wp ?_
  simp only [go_sem, fN, seval, true_implies, false_implies, implies_true, dT, dF, nL, hv]
  (try with_reducible refine iC ?_)
  repeat' with_reducible first | refine W ?_ | refine Z0 ?_ | ((first | refine Wo fun K hK => ?_ | refine Wq ?_ | refine Wr ?_); (try simp only [go_sem, fN, seval, eT, iR, e0, e1, hi2, hi2']); (repeat refine Ai ?_); (try (refine hK _ ?_; clear hK K)))
 all_goals
  refine IWP.loopD [6] (fun m s => ∃ k, k ≤ t.args.length ∧ m = t.args.length - k ∧ s.env 1 = .one (.row i (Al (Bb l t.name) (Tm.knotsL (t.args.take k))).length) ∧ s.env 23 = .one (.st (.list (t.args.map Ay))) ∧ s.env 24 = AR t.args.length ∧ s.env 25 = AR k ∧ s.S = AH (AH S 2 (some (.box 32 [.st (.str t.name), .st (.list (t.args.map Ay))]))) i (some (.arow 9 1 ((Al (Bb l t.name) (Tm.knotsL (t.args.take k))).map Eb)))) t.args.length ⟨0, Nat.zero_le _, rfl, ?_, rfl, rfl, rfl, ?_⟩ ?_
  ·show _ = AV.one (.row i (Bb l t.name).length)
   rw [hl1]
   simp only [go_sem, fN, seval, eT, iR, e1]
  ·show _ = AH (AH S 2 _) i (some (.arow 9 1 ((Bb l t.name).map Eb)))
   rw [hl1]
   first
    | (simp only [GO]; exact LG _ hi2' _ _)
    | (simp only [LG _ hi2', GO, List.map_append]; rfl)
  rintro m ⟨env', S'⟩ ⟨k, hk', rfl, e1', e23, e24, e25, hS'⟩
  simp only at e1' e23 e24 e25 hS'
  have s6 : S' 6 = none := by rw [hS', AK _ hi6, AK _ (by omega), hc6]
  have si : S' i = some (.arow 9 1 ((Al (Bb l t.name) (Tm.knotsL (t.args.take k))).map Eb)) := by rw [hS', AE]
  have hlk' := hlk k
  have z3 := Tm.length_le t.args
  by_cases hlt : (k : Int) < t.args.length
  ·obtain ⟨a, ha⟩ := Ao (show k < t.args.length by omega)
   have z1 := Tm.sizes_take ha
   have z2 := Tm.sizes_take_le t.args (k + 1)
   repeat' with_reducible first | refine W ?_ | refine Z0 ?_ | ((first | refine Wo fun K hK => ?_ | refine Wq ?_ | refine Wr ?_); (try simp only [go_sem, fN, seval, eT, iR, e1', e23, e24, e25, s6, si, hlt]); (repeat refine Ai ?_); (try (refine hK _ ?_; clear hK K)))
   with_reducible refine Wp ?_
   simp only [go_sem, fN, seval, true_implies, false_implies, implies_true, dT, dF, nL, e1', e23, e24, e25, s6, si, hlt]
   (try with_reducible refine iC ?_)
   repeat' with_reducible first | refine W ?_ | refine Z0 ?_ | ((first | refine Wo fun K hK => ?_ | refine Wq ?_ | refine Wr ?_); (try simp only [go_sem, fN, seval, eT, iR, e1', e23, e24, e25, s6, si, ha]); (repeat refine Ai ?_); (try (refine hK _ ?_; clear hK K)))
   have hni : ([6] : List Nat).contains i = false := by simp; omega
   refine ⟨_, _, ih a (AW ha) (up1 i) _ _ (Ar i) (by omega) (by rw [As, AK _ hi6', AK _ hi6', si]; rfl), ?_⟩
   repeat' with_reducible first | refine W ?_ | refine Z0 ?_ | ((first | refine Wo fun K hK => ?_ | refine Wq ?_ | refine Wr ?_); (try simp only [go_sem, fN, seval, eT, iR, e23, e24, e25]); (repeat refine Ai ?_); (try (refine hK _ ?_; clear hK K)))
   refine AG ⟨t.args.length - (k + 1), by omega, k + 1, by omega, rfl, ?_⟩
   have hib : (i == 6) = false := by simp; omega
   simp only [go_sem, fN, seval, AS.drop, AC.clears, AC.clear, AC.highs, AC.high, Bool.not_false, Bool.true_and, Bool.and_self, AV.purge, AV.purges, AC.purge, AJ.purge, List.contains_cons, List.contains_nil, Nat.reduceBEq, Bool.or_self, Bool.or_false, Bool.false_or, Bool.or_true, eT, iR, e23, e24, hib]
   rw [Tm.knotsL_take ha, Fa]
   refine ⟨rfl, by congr 3, ?_⟩
   rw [HT hni, MY rfl, MY rfl, hS', HT hni, HT rfl, NN (by decide) hS, GO]
   rfl
  ·repeat' with_reducible first | refine W ?_ | refine Z0 ?_ | ((first | refine Wo fun K hK => ?_ | refine Wq ?_ | refine Wr ?_); (try simp only [go_sem, fN, seval, eT, iR, e1', e23, e24, e25, hlt]); (repeat refine Ai ?_); (try (refine hK _ ?_; clear hK K)))
   with_reducible refine Wp ?_
   simp only [go_sem, fN, seval, true_implies, false_implies, implies_true, dT, dF, nL, e1', e23, e24, e25, hlt]
   (try with_reducible refine iC ?_)
   repeat' with_reducible first | refine W ?_ | refine Z0 ?_ | ((first | refine Wo fun K hK => ?_ | refine Wq ?_ | refine Wr ?_); (try simp only [go_sem, fN, seval, eT, iR, e1']); (repeat refine Ai ?_); (try (refine hK _ ?_; clear hK K)))
   rw [hS']
   have hfin : Al (Bb l t.name) (Tm.knotsL (t.args.take k)) = Al l t.knots := by rw [List.take_of_length_le (by omega), hk]; rfl
   rw [hfin]
   refine hQ _ ?_
   simp only [go_sem, fN, seval, eT, iR]
theorem P7 {α : Type} {f : Nat → α} {i : Nat} {a : α} (h : f i = a) : AH f i a = f := by
 funext k
 unfold AH
 split
 ·rename_i e
  rw [e, h]
 ·rfl
theorem SA (t : Tm) (hz : t.size ≤ 1000000) : ∀ (i : Nat) (l : List ByteArray) (S : AA), 1000 ≤ i → l.length + t.size ≤ 3000000 → S i = some (.arow 9 1 (l.map Eb)) →
   Am Tryd.prog 43 [aTm t, .one (.row i l.length)] S (.one (.row i (Al l t.knots).length)) (AH S i (some (.arow 9 1 ((Al l t.knots).map Eb)))) := by
 induction h : SizeOf.sizeOf t using Nat.strongRecOn generalizing t with
 | _ N ih =>
 subst h
 have hs := Tm.size_eq t
 intro i l S hi hl hSi
 refine G6.acS fun hS C hC => ?_
 have hcore := LB t hz (fun a ha => ih _ (Tm.lt_of_arg ha) a (by have := Tm.size_mem ha; omega) rfl) C hC i (by omega) l hl S hS (fun j => ([aTm t, .one (.row i l.length)][j]?).getD (.tup [])) rfl rfl
  (IC C [.t 4] (.one (.row i (Al l t.knots).length)) (AH S i (some (.arow 9 1 ((Al l t.knots).map Eb))))) ?_
 ·rw [P7 hSi] at hcore
  exact hcore
 ·intro env' e4
  have hc' : At (AH S i (some (.arow 9 1 ((Al l t.knots).map Eb)))) := CT hS hi rfl
  refine PE trivial ⟨_, Ae.low (Sw (HV (by omega) fun k c _ hk => (hS k c hk).2) rfl), ?_, ?_, hc'⟩
  ·simp only [AB, AD, AI, e4, AV.low, AV.high, AC.high, hi, decide_true, if_true, Option.map_some]
  ·show CJ _ = _
   rw [QU _ hi, G1 _ (by omega), GG hS]
theorem S4 (t : Tm) (hz : t.size ≤ 1000000) (a0 : Nat) (S : AA) (ha : 1000 ≤ a0) (hSa : S a0 = none) :
   Am Tryd.prog 43 [aTm t, .one (.full [])] S (.one (.row a0 (Al [] t.knots).length)) (AH S a0 (some (.arow 9 1 ((Al [] t.knots).map Eb)))) := by
 have hs := Tm.size_eq t
 refine G6.acS fun hS C hC => ?_
 refine IWP.ghost (Ae.own 1 21 9 1 (xs := ([] : List ByteArray).map Eb) rfl (AM hS (by omega)) QO (by omega)) ?_
 refine LB t hz (fun a ha => SA a (by have := Tm.size_mem ha; omega)) C hC 21 (by omega) [] (by simp; omega) S hS _ rfl rfl _ ?_
 intro env' e4
 have hb : ∀ i b, 1000 ≤ i → AH (AH S 2 (some (.box 32 [.st (.str t.name), .st (.list (t.args.map Ay))]))) 21 (some (.arow 9 1 ((Al [] t.knots).map Eb))) i = some b → b.high = true := HV (by omega) (HV (by omega) fun k c _ hk => (hS k c hk).2)
 refine PE trivial ⟨_, Ae.hand 21 a0 (b0 := .arow 9 1 ((Al [] t.knots).map Eb)) (by omega) ha (by show AH _ _ _ _ = _; rw [AK _ (by omega), AK _ (by omega), hSa]) (by simp only [AE]) rfl hb, ?_, ?_, CT hS ha rfl⟩
 ·simp only [AB, AD, AI, e4, AV.hand, AV.ren, AC.ren, BY, if_true, AV.high, AC.high, ha, decide_true, Option.map_some]
 ·show AH (CJ _) _ _ = _
  rw [G1 _ (by omega), G1 _ (by omega), GG hS]
theorem OS (t : Tm) (hz : t.size ≤ 1000000) : Aa Tryd.prog 22 [aTm t] (Fz t.varsOf) := by
 refine Ll.ac fun C hC => ?_
 unfold GZ
 repeat' with_reducible first | refine W ?_ | refine Z0 ?_ | ((first | refine Wo fun K hK => ?_ | refine Wq ?_ | refine Wr ?_); (try simp only [go_sem, fN, seval, eT, iR]); (repeat refine Ai ?_); (try (refine hK _ ?_; clear hK K)))
 refine ⟨_, _, S4 t hz (up1 10) _ (Ar 10) (by rw [As]; rfl), ?_⟩
 repeat' with_reducible first | refine W ?_ | refine Z0 ?_ | ((first | refine Wo fun K hK => ?_ | refine Wq ?_ | refine Wr ?_); (try simp only [go_sem, fN, seval, eT, iR]); (repeat refine Ai ?_); (try (refine hK _ ?_; clear hK K)))
 simp only [go_sem, fN, seval, AO, AS.result, AB, AD, AI]
 rfl
theorem Lp (t : Tm) (hz : t.size ≤ 1000000) : Aa Tryd.prog 50 [aTm t] (aTm t) := by
 induction h : SizeOf.sizeOf t using Nat.strongRecOn generalizing t with
 | _ N ih =>
 subst h
 have hs := Tm.size_eq t
 have hkn := Tm.length_le t.args
 refine LR.ac fun C hC => ?_
 unfold G7
 repeat' with_reducible first | refine W ?_ | refine Z0 ?_ | ((first | refine Wo fun K hK => ?_ | refine Wq ?_ | refine Wr ?_); (try simp only [go_sem, fN, seval, eT, iR]); (repeat refine Ai ?_); (try (refine hK _ ?_; clear hK K)))
 refine IWP.ghost (Ae.ownC 3 1 21 32 2 (xs := ([] : List Tm).map Ay) rfl rfl rfl C8) ?_
 refine IWP.loopD [5] (fun m s => ∃ k, k ≤ t.args.length ∧ m = t.args.length - k ∧ s.env 2 = .one (.ptr 2 1 0 0) ∧ s.env 3 = .one (.ptr 3 1 0 0) ∧ s.S 2 = some (.box 32 [.st (.str ⟨#[]⟩), .full []]) ∧ s.S 3 = some (.box 32 [.st (.str t.name), .row 21 k]) ∧ s.S 21 = some (.arow 32 2 ((t.args.take k).map Ay)) ∧ s.env 10 = .one (.st (.list (t.args.map Ay))) ∧ s.env 11 = AR t.args.length ∧ s.env 12 = AR k ∧ s.S 5 = none)
  t.args.length ⟨0, Nat.zero_le _, rfl, rfl, rfl, rfl, rfl, rfl, rfl, rfl, rfl, rfl⟩ ?_
 rintro m ⟨env, S⟩ ⟨k, hk, rfl, e2, e3, s2, s3, s21, e10, e11, e12, s5⟩
 simp only at e2 e3 s2 s3 s21 e10 e11 e12 s5
 have hlk : (t.args.take k).length = k := by rw [List.length_take]; omega
 by_cases hlt : (k : Int) < t.args.length
 ·obtain ⟨a, ha⟩ := Ao (show k < t.args.length by omega)
  repeat' with_reducible first | refine W ?_ | refine Z0 ?_ | ((first | refine Wo fun K hK => ?_ | refine Wq ?_ | refine Wr ?_); (try simp only [go_sem, fN, seval, eT, iR, e2, e3, s2, s3, s21, e10, e11, e12, s5, hlt]); (repeat refine Ai ?_); (try (refine hK _ ?_; clear hK K)))
  with_reducible refine Wp ?_
  simp only [go_sem, fN, seval, true_implies, false_implies, implies_true, dT, dF, nL, e10, e11, e12, hlt]
  (try with_reducible refine iC ?_)
  repeat' (first | (with_reducible first | refine W ?_ | refine Z0 ?_ | ((first | refine Wo fun K hK => ?_ | refine Wq ?_ | refine Wr ?_); (try simp only [go_sem, fN, seval, eT, iR, e2, e3, s2, s3, s21, e10, e11, e12, s5, ha, hlk]); (repeat refine Ai ?_); (try (refine hK _ ?_; clear hK K)))) | refine Cg _ (ih _ (Tm.lt_of_arg (AW ha)) a (by have := Tm.size_mem (AW ha); omega) rfl) ?_)
  refine AG ⟨t.args.length - (k + 1), by omega, k + 1, by omega, rfl, ?_⟩
  simp only [go_sem, fN, seval, AS.drop, Ap, AC.clears, AC.clear, AC.highs, AC.high, Bool.not_false, Bool.true_and, Bool.and_self, AV.purge, AV.purges, AC.purge, AJ.purge, List.contains_cons, List.contains_nil, Nat.reduceBEq, Bool.or_self, Bool.or_false, Bool.false_or, Bool.or_true, eT, iR, e2, e3, s2, s3, s21, e10, e11, e12, s5]
  exact ⟨by rw [Aq ha]; simp [CS], by congr 3⟩
 ·repeat' with_reducible first | refine W ?_ | refine Z0 ?_ | ((first | refine Wo fun K hK => ?_ | refine Wq ?_ | refine Wr ?_); (try simp only [go_sem, fN, seval, eT, iR, e2, e3, s2, s3, s21, e10, e11, e12, s5, hlt]); (repeat refine Ai ?_); (try (refine hK _ ?_; clear hK K)))
  with_reducible refine Wp ?_
  simp only [go_sem, fN, seval, true_implies, false_implies, implies_true, dT, dF, nL, e10, e11, e12, hlt]
  (try with_reducible refine iC ?_)
  repeat' with_reducible first | refine W ?_ | refine Z0 ?_ | ((first | refine Wo fun K hK => ?_ | refine Wq ?_ | refine Wr ?_); (try simp only [go_sem, fN, seval, eT, iR, e2, e3, s2, s3, s21, e10, e11, e12, s5]); (repeat refine Ai ?_); (try (refine hK _ ?_; clear hK K)))
  have hall : t.args.take k = t.args := List.take_of_length_le (by omega)
  rw [hall] at hlk s21
  simp only [go_sem, fN, seval, AO, AS.result, AB, AD, AI, e2, s2, s21, hlk]

def Mu (n : Nat) : ByteArray := ⟨(Lib.decDigits n).toArray⟩
def Cp (k : Nat) : ByteArray := ⟨#[90]⟩ ++ Mu (k + 1)
def Ja (k : Nat) : Tm := .mk (Cp k) []
theorem GM (k : Nat) : (Cp k).data.toList = 90 :: Lib.decDigits (k + 1) := by
 unfold Cp Mu
 simp
theorem Lr {u k : Nat} (h : u < 10 ^ k) (hk : 1 ≤ k) : Lib.nDigits u ≤ k := by
 induction k generalizing u with
 | zero => omega
 | succ k ih =>
  by_cases h1 : u < 10
  ·rw [Lib.nDigits_small h1]; omega
  ·rw [Lib.nDigits_big h1]
   have : 1 ≤ k := by
    rcases Nat.eq_zero_or_pos k with h0 | h0
    ·subst h0; rw [Nat.zero_add, Nat.pow_one] at h; omega
    ·exact h0
   have := ih (u := u / 10) (by rw [Nat.pow_succ] at h; omega) this
   omega
theorem Qa (n : Nat) : (Mu n).size = Lib.nDigits n := by
 show (Lib.decDigits n).toArray.size = _
 rw [List.size_toArray, Lib.decDigits_length]
theorem En {n : Nat} (h : n < 1000000) : (Mu n).size ≤ 6 := by rw [Qa]; exact Lr (k := 6) (by omega) (by omega)
theorem FX (u : Nat) : ∀ d ∈ Lib.decDigits u, 48 ≤ d.toNat ∧ d.toNat ≤ 57 := by
 induction u using Nat.strongRecOn with
 | _ u ih =>
  by_cases h : u < 10
  ·rw [Lib.decDigits, dif_pos h]
   intro d hd
   rw [List.mem_singleton] at hd
   subst hd
   rw [UInt8.toNat_ofNat_of_lt' (by show _ < 256; omega)]
   omega
  ·rw [Lib.decDigits, dif_neg h]
   intro d hd
   rcases List.mem_append.1 hd with hd | hd
   ·exact ih _ (by omega) d hd
   ·rw [List.mem_singleton] at hd
    subst hd
    rw [UInt8.toNat_ofNat_of_lt' (by show _ < 256; omega)]
    omega
theorem RF (k : Nat) : Ac (Cp k) 0 = 90 := by
 unfold Ac
 rw [GM]
 rfl
theorem JZ (k : Nat) : (Cp k).size = 1 + Lib.nDigits (k + 1) := by
 have : (Cp k).size = (Cp k).data.toList.length := by
  show (Cp k).data.size = _
  rw [Array.length_toList]
 rw [this, GM, List.length_cons, Lib.decDigits_length]
 omega
theorem RT {k : Nat} (h : k + 1 < 1000000) : A0 (Cp k) = true := by
 have h6 := Lr (u := k + 1) (k := 6) (by omega) (by omega)
 unfold A0
 rw [RF, JZ, decide_eq_true (show 1 ≤ 1 + Lib.nDigits (k + 1) by omega), decide_eq_true (show 1 + Lib.nDigits (k + 1) ≤ 8 by omega)]
 have : Bi (Cp k) (1 + Lib.nDigits (k + 1)) = true := by
  unfold Bi
  rw [GM]
  refine List.all_eq_true.2 fun c hc => ?_
  have hc := List.mem_of_mem_take hc
  rcases List.mem_cons.1 hc with rfl | hc
  ·decide
  ·have := FX _ c hc
   unfold A7
   rw [decide_eq_true (show 48 ≤ (c.toNat : Int) ∧ (c.toNat : Int) ≤ 57 by omega), Bool.or_true]
 rw [this]
 decide
theorem QJ {k : Nat} (h : k + 1 < 1000000) : (Ja k).chk = 0 := Mx (RT h)
def Rq (n : ByteArray) (xs : List Tm) (b : Tm) : Prop := AQ n = false ∧ n = b.name ∧ xs.length = b.args.length
instance (n : ByteArray) (xs : List Tm) (b : Tm) : Decidable (Rq n xs b) := by unfold Rq; infer_instance
def Qv (l m : List Pr) : Prop := ∃ r, m = l ++ r
theorem Qv.refl (l : List Pr) : Qv l l := ⟨[], by simp⟩
theorem Qv.trans {a b c : List Pr} (h : Qv a b) (k : Qv b c) : Qv a c := by
 obtain ⟨r, rfl⟩ := h
 obtain ⟨q, rfl⟩ := k
 exact ⟨r ++ q, by simp⟩


def Bc : List ByteArray → ByteArray → Nat
 | [], _ => 0
 | x :: l, n => if x = n then 0 else Bc l n + 1
def Do (l : List ByteArray) (n : ByteArray) : List ByteArray := if Bc l n < l.length then l else l ++ [n]
theorem PO (l : List ByteArray) (n : ByteArray) : Bc l n ≤ l.length := by
 induction l with
 | nil => exact Nat.le_refl _
 | cons p l ih => rw [Bc]; split <;> simp; omega
theorem Iy {l : List ByteArray} {n : ByteArray} : Bc l n < l.length ↔ n ∈ l := by
 induction l with
 | nil => simp [Bc]
 | cons x l ih =>
  rw [Bc]
  by_cases e : x = n
  ·rw [if_pos e]; simp [e]
  ·rw [if_neg e, List.length_cons, List.mem_cons]
   constructor
   ·intro h; exact .inr (ih.1 (by omega))
   ·rintro (h | h)
    ·exact absurd h.symm e
    ·have := ih.2 h; omega
theorem H1 {l m : List ByteArray} {n : ByteArray} (h : Bc l n < l.length) : Bc (l ++ m) n = Bc l n := by
 induction l with
 | nil => simp [Bc] at h
 | cons x l ih =>
  rw [Bc] at h
  rw [List.cons_append, Bc, Bc]
  by_cases e : x = n
  ·rw [if_pos e, if_pos e]
  ·rw [if_neg e] at h
   rw [if_neg e, if_neg e, ih (by simpa using h)]
theorem Fh {l : List ByteArray} {n : ByteArray} (h : ¬ Bc l n < l.length) : Bc (l ++ [n]) n = l.length := by
 induction l with
 | nil => simp [Bc]
 | cons x l ih =>
  rw [Bc] at h
  rw [List.cons_append, Bc]
  by_cases e : x = n
  ·rw [if_pos e] at h; simp at h
  ·rw [if_neg e] at h
   rw [if_neg e, ih (by simpa using h), List.length_cons]
theorem Rc {l : List ByteArray} {n : ByteArray} (hv : AQ n = true) : Do l n = Bb l n := by
 unfold Do
 by_cases h : n ∈ l
 ·rw [if_pos (Iy.2 h), Ky (GY.2 h)]
 ·rw [if_neg (fun k => h (Iy.1 k)), JY hv (LN.2 h)]
mutual
def Tm.cn : Tm → List ByteArray → Tm × List ByteArray
 | .mk n xs, l => if AQ n = true then (Ja (Bc l n), Do l n) else (.mk n (Tm.cnL xs l).1, (Tm.cnL xs l).2)
def Tm.cnL : List Tm → List ByteArray → List Tm × List ByteArray
 | [], l => ([], l)
 | x :: xs, l => ((x.cn l).1 :: (Tm.cnL xs (x.cn l).2).1, (Tm.cnL xs (x.cn l).2).2)
end
theorem UK {t : Tm} {l : List ByteArray} (h : AQ t.name = true) : t.cn l = (Ja (Bc l t.name), Do l t.name) := by
 cases t with
 | mk n xs =>
  have h : AQ n = true := h
  rw [Tm.cn, if_pos h]
  rfl
theorem TP {t : Tm} {l : List ByteArray} (h : AQ t.name = false) : t.cn l = (.mk t.name (Tm.cnL t.args l).1, (Tm.cnL t.args l).2) := by
 cases t with
 | mk n xs =>
  have h : AQ n = false := h
  rw [Tm.cn, if_neg (by rw [h]; simp)]
  rfl
theorem I0 : ∀ (xs ys : List Tm) (l : List ByteArray), Tm.cnL (xs ++ ys) l = ((Tm.cnL xs l).1 ++ (Tm.cnL ys (Tm.cnL xs l).2).1, (Tm.cnL ys (Tm.cnL xs l).2).2)
 | [], ys, l => by simp [Tm.cnL]
 | x :: xs, ys, l => by
  simp only [List.cons_append, Tm.cnL]
  rw [I0 xs ys]
theorem NU {xs : List Tm} {k : Nat} {x : Tm} {l : List ByteArray} (hx : xs[k]? = some x) : Tm.cnL (xs.take (k + 1)) l = ((Tm.cnL (xs.take k) l).1 ++ [(x.cn (Tm.cnL (xs.take k) l).2).1], (x.cn (Tm.cnL (xs.take k) l).2).2) := by
 rw [Aq hx, I0]
 simp [Tm.cnL]
theorem Lg : ∀ (xs : List Tm) (l : List ByteArray), (Tm.cnL xs l).1.length = xs.length
 | [], l => rfl
 | x :: xs, l => by simp only [Tm.cnL, List.length_cons]; rw [Lg xs]
def EA (k : Nat) : List ByteArray → List Bd
 | [] => []
 | n :: l => (n, Ja k) :: EA (k + 1) l
theorem D9 : ∀ (l : List ByteArray) (k : Nat) (n : ByteArray), lookup (EA k l) n = if Bc l n < l.length then some (Ja (k + Bc l n)) else none
 | [], k, n => by simp [EA, JL, Bc]
 | x :: l, k, n => by
  rw [EA, Hi, Bc]
  by_cases e : x = n
  ·rw [if_pos e, if_pos e]
   simp
  ·rw [if_neg e, if_neg e, D9 l (k + 1) n, List.length_cons]
   by_cases h : Bc l n < l.length
   ·rw [if_pos h, if_pos (by omega)]
    congr 2
    omega
   ·rw [if_neg h, if_neg (by omega)]
def FU (l m : List ByteArray) : Prop := ∃ r, m = l ++ r
theorem FU.trans {a b c : List ByteArray} (h : FU a b) (k : FU b c) : FU a c := by
 obtain ⟨r, rfl⟩ := h
 obtain ⟨q, rfl⟩ := k
 exact ⟨r ++ q, by simp⟩
theorem Pv (l : List ByteArray) (n : ByteArray) : FU l (Do l n) := by
 unfold Do
 split
 ·exact ⟨[], by simp⟩
 ·exact ⟨_, rfl⟩
mutual
theorem Tk : ∀ (t : Tm) (l : List ByteArray), FU l (t.cn l).2
 | .mk n xs, l => by
  rw [Tm.cn]
  split
  ·exact Pv l n
  ·exact Jg xs l
theorem Jg : ∀ (xs : List Tm) (l : List ByteArray), FU l (Tm.cnL xs l).2
 | [], l => ⟨[], by simp [Tm.cnL]⟩
 | x :: xs, l => by
  simp only [Tm.cnL]
  exact (Tk x l).trans (Jg xs _)
end
theorem Qq {l m : List ByteArray} {n : ByteArray} (hg : FU (Do l n) m) : Bc m n = Bc l n ∧ Bc m n < m.length := by
 obtain ⟨r, rfl⟩ := hg
 unfold Do
 by_cases h : Bc l n < l.length
 ·rw [if_pos h, H1 h, List.length_append]
  exact ⟨rfl, by omega⟩
 ·rw [if_neg h, H1 (by rw [Fh h]; simp), Fh h]
  have := PO l n
  refine ⟨by omega, by rw [List.length_append, List.length_append, List.length_singleton]; omega⟩
mutual
theorem NH : ∀ (t : Tm), t.chk = 0 → ∀ l, (t.cn l).2 = Al l t.knots
 | .mk n xs, hc, l => by
  obtain ⟨c1, c2⟩ := Tm.chk_args hc
  simp only [Tm.name_mk, Tm.args_mk] at c1 c2
  have hk : Al l (Tm.mk n xs).knots = Al (Bb l n) (Tm.knotsL xs) := rfl
  rw [hk, Tm.cn]
  cases hv : AQ n with
  | true =>
   have h0 := c1 hv
   subst h0
   rw [if_pos rfl]
   exact Rc hv
  | false =>
   rw [if_neg (by simp), K6 hv]
   exact KP xs c2 l
theorem KP : ∀ (xs : List Tm), (∀ x ∈ xs, x.chk = 0) → ∀ l, (Tm.cnL xs l).2 = Al l (Tm.knotsL xs)
 | [], _, l => rfl
 | x :: xs, hc, l => by
  simp only [Tm.cnL]
  rw [KP xs (fun a ha => hc a (by simp [ha])), NH x (hc x (by simp)), Tm.knotsL, Fa]
end
mutual
theorem Rh : ∀ (t : Tm), t.chk = 0 → ∀ l m, (∀ n ∈ m, AQ n = true) → FU (t.cn l).2 m → (t.cn l).1 = t.on (EA 0 m)
 | .mk n xs, hc, l, m, hm, hg => by
  obtain ⟨c1, c2⟩ := Tm.chk_args hc
  simp only [Tm.name_mk, Tm.args_mk] at c1 c2
  rw [Tm.cn] at hg ⊢
  cases hv : AQ n with
  | true =>
   have h0 := c1 hv
   subst h0
   rw [hv, if_pos rfl] at hg
   rw [if_pos rfl]
   obtain ⟨p1, p2⟩ := Qq (show FU (Do l n) m from hg)
   rw [Tm.on_leaf (t := .mk n []) (x := Ja (Bc l n)) (by rw [Tm.name_mk, D9, if_pos p2, p1, Nat.zero_add]) rfl]
  | false =>
   rw [hv, if_neg (by simp)] at hg
   rw [if_neg (by simp)]
   have hl : lookup (EA 0 m) n = none := by
    rw [D9, if_neg]
    intro h
    have := hm n (Iy.1 h)
    rw [hv] at this
    cases this
   rw [Tm.on_knot (t := .mk n xs) (.inl hl), Tm.name_mk, Tm.args_mk, SJ xs c2 l m hm hg]
theorem SJ : ∀ (xs : List Tm), (∀ x ∈ xs, x.chk = 0) → ∀ l m, (∀ n ∈ m, AQ n = true) → FU (Tm.cnL xs l).2 m → (Tm.cnL xs l).1 = xs.map (Tm.on (EA 0 m))
 | [], _, l, m, _, _ => rfl
 | x :: xs, hc, l, m, hm, hg => by
  simp only [Tm.cnL] at hg ⊢
  rw [List.map_cons, Rh x (hc x (by simp)) l m hm ((Jg xs _).trans hg), SJ xs (fun a ha => hc a (by simp [ha])) _ m hm hg]
end
theorem Sp (l : List ByteArray) (n : ByteArray) : (Do l n).length ≤ l.length + 1 := by unfold Do; split <;> simp
mutual
theorem Eh : ∀ (t : Tm) (l : List ByteArray), (t.cn l).2.length ≤ l.length + t.size
 | .mk n xs, l => by
  rw [Tm.cn, Tm.size]
  split
  ·have := Sp l n
   show (Do l n).length ≤ _
   omega
  ·have := DH xs l
   show (Tm.cnL xs l).2.length ≤ _
   omega
theorem DH : ∀ (xs : List Tm) (l : List ByteArray), (Tm.cnL xs l).2.length ≤ l.length + Tm.sizes xs
 | [], l => by simp [Tm.cnL]
 | x :: xs, l => by
  simp only [Tm.cnL, Tm.sizes]
  have h1 := Eh x l
  have h2 := DH xs (x.cn l).2
  omega
end
theorem G8 (ks : List Tm) : ∀ l : List ByteArray, (∀ n ∈ l, AQ n = true) → ∀ n ∈ Al l ks, AQ n = true := by
 induction ks with
 | nil => exact fun l h => h
 | cons k ks ih =>
  intro l h
  have e : Al l (k :: ks) = Al (Bb l k.name) ks := rfl
  rw [e]
  refine ih _ fun n hn => ?_
  unfold Bb at hn
  split at hn
  ·rename_i h1
   rcases List.mem_append.1 hn with h2 | h2
   ·exact h n h2
   ·rw [List.mem_singleton.1 h2]
    rw [Bool.and_eq_true] at h1
    exact h1.1
  ·exact h n hn
theorem MF (t : Tm) : ∀ n ∈ t.varsOf, AQ n = true := G8 _ [] (by simp)
theorem KA (ks : List Tm) : ∀ l : List ByteArray, l.Nodup → (Al l ks).Nodup := by
 induction ks with
 | nil => exact fun l h => h
 | cons k ks ih =>
  intro l h
  have e : Al l (k :: ks) = Al (Bb l k.name) ks := rfl
  rw [e]
  refine ih _ ?_
  unfold Bb
  split
  ·rename_i h1
   rw [Bool.and_eq_true, Bool.not_eq_true'] at h1
   have h2 := LN.1 h1.2
   rw [List.nodup_append]
   exact ⟨h, by simp, fun a ha b hb e => h2 (by rw [List.mem_singleton.1 hb] at e; rw [← e]; exact ha)⟩
  ·exact h
theorem L_ (t : Tm) : t.varsOf.Nodup := KA _ [] List.nodup_nil

def DY : IR :=
 (.seq (.ops [.i 2 (.mov (.c (.one (.st (.bool false)))))]) (.seq (.ops [.m 3 0, .m 4 0, .i 5 (.bin .neq (.t 3) (.t 4)), .m 2 5]) .ret))
theorem Fu : OkF Tryd.prog 70 6 [] DY [.t 2] := .of Tryd.func70 rfl rfl (by kernel_rfl) rfl
def C7 : IR :=
 (.seq (.ops [.i 4 (.mov (.n 0))]) (.seq (.ops [.m 7 0, .i 8 (.call 70 [.t 7]), .m 5 8]) (.seq (.ops [.m 9 1, .i 10 (.call 70 [.t 9]), .m 6 10]) (.seq (.seq (.ops [.m 11 5]) (.cond (.t 11) (.seq (.seq (.ops [.m 12 6]) (.cond (.t 12) (.seq (.ops [.i 4 (.mov (.n 0))]) .ret) .skip)) (.seq (.ops [.i 4 (.mov (.c (.one (.st (.int .i64 (-1))))))]) .ret)) .skip)) (.seq (.seq (.ops [.m 13 6]) (.cond (.t 13) (.seq (.ops [.i 4 (.mov (.n 1))]) .ret) .skip)) (.seq (.seq (.ops [.m 14 0, .m 15 1, .i 16 (.bin .lss (.t 14) (.t 15))]) (.cond (.t 16) (.seq (.ops [.i 4 (.mov (.c (.one (.st (.int .i64 (-1))))))]) .ret) .skip)) (.seq (.seq (.ops [.m 17 0, .m 18 1, .i 19 (.bin .gtr (.t 17) (.t 18))]) (.cond (.t 19) (.seq (.ops [.i 4 (.mov (.n 1))]) .ret) .skip)) (.seq (.ops [.i 4 (.mov (.n 0))]) .ret))))))))
theorem E3 : OkF Tryd.prog 62 20 [] C7 [.t 4] := .of Tryd.func62 rfl rfl (by kernel_rfl) rfl
def Ez : IR :=
 (.seq (.ops [.i 2 (.box 51 (.t 0)), .i 4 (.mov (.n 0))]) (.seq (.ops [.f 5 0 2, .l 6 5, .m 7 1, .i 8 (.call 62 [.t 6, .t 7]), .m 4 8]) .ret))
theorem IK : OkF Tryd.prog 72 9 [] Ez [.t 4] := .of Tryd.func72 rfl rfl (by kernel_rfl) rfl
def Ah : IR :=
 (.seq (.ops [.i 6 (.mov (.n 0)), .i 7 (.mov (.c (.one (.st (.bool false)))))]) (.seq (.ops [.m 12 0, .i 13 (.len false (.t 12)), .m 8 13]) (.seq (.ops [.m 14 8, .i 9 (.mov (.n 0)), .m 10 14]) (.seq (.block 0 (.loop (.seq (.seq (.ops [.m 15 9, .m 16 10, .i 17 (.bin .lss (.t 15) (.t 16))]) (.cond (.t 17) .skip (.exit 0))) (.block 1 (.seq (.ops [.m 18 9, .m 19 10, .i 20 (.bin .add (.t 18) (.t 19)), .i 21 (.conv .u64 (.t 20)), .i 22 (.bin .shr (.t 21) (.c (.one (.st (.int .u64 1))))), .i 23 (.conv .i64 (.t 22)), .m 11 23]) (.seq (.ops [.m 24 2, .m 25 0, .m 26 11, .i 27 (.indexAddr 3 (.t 25) (.t 26)), .L 28 3 27, .m 29 1, .i 30 (.callV (.t 24) [.t 28, .t 29]), .i 31 (.bin .lss (.t 30) (.n 0))]) (.cond (.t 31) (.ops [.m 32 11, .i 33 (.bin .add (.t 32) (.n 1)), .m 9 33]) (.ops [.m 34 11, .m 10 34])))))))) (.seq (.ops [.m 35 9, .m 36 9, .m 37 8, .i 38 (.bin .lss (.t 36) (.t 37)), .m 39 38, .mk (some 40) (some (39, true)) (.mov (.t 2)) .no, .mk (some 41) (some (39, true)) (.mov (.t 0)) .no, .mk (some 42) (some (39, true)) (.mov (.t 9)) .no, .mk (some 43) (some (39, true)) (.indexAddr 3 (.t 41) (.t 42)) .no, .mk (some 44) (some (39, true)) (.load true 3 (.t 43)) .no, .mk (some 45) (some (39, true)) (.mov (.t 1)) .no, .mk (some 46) (some (39, true)) (.callV (.t 40) [.t 44, .t 45]) .no, .mk (some 47) (some (39, true)) (.bin .eql (.t 46) (.n 0)) .no, .i 48 (.pick (.t 39) (.t 47) (.c (.one (.st (.bool false))))), .m 6 35, .m 7 48]) .ret)))))
theorem A9 : OkF Tryd.prog 71 49 [] Ah [.t 6, .t 7] := .of Tryd.func71 rfl rfl (by kernel_rfl) rfl
def F4 : IR :=
 (.seq (.ops [.i 4 (.alloc 32 [.st (.str (ByteArray.mk (#[]))), .full []]), .i 5 (.mov (.c (.one (.st (.bool false)))))]) (.seq (.ops [.m 9 0, .m 10 1, .i 11 (.call 71 [.t 9, .t 10, .c (.one (.fn 72 []))]), .m 8 11, .i 12 (.extract 0 (.t 8)), .i 13 (.extract 1 (.t 8)), .m 6 12, .m 7 13]) (.seq (.seq (.ops [.m 14 7, .i 15 (.un .not (.t 14))]) (.cond (.t 15) (.seq (.ops [.i 16 (.build [.st (.str (ByteArray.mk (#[]))), .full []] []), .s 2 4 16, .i 5 (.mov (.c (.one (.st (.bool false)))))]) .ret) .skip)) (.seq (.ops [.m 17 0, .m 18 6, .i 19 (.indexAddr 3 (.t 17) (.t 18)), .f 20 1 19, .L 21 2 20, .s 2 4 21, .i 5 (.mov (.c (.one (.st (.bool true)))))]) .ret))))
theorem J8 : OkF Tryd.prog 63 22 [] F4 [.cell 4 true 2, .t 5] := .of Tryd.func63 rfl rfl (by kernel_rfl) rfl
def BZ : IR :=
 (.seq (.ops [.i 4 (.box 32 (.t 1)), .i 6 (.alloc 32 [.st (.str (ByteArray.mk (#[]))), .full []])]) (.seq (.seq (.ops [.m 12 2]) (.cond (.t 12) (.seq (.ops [.m 14 0, .i 15 (.nilCheck (.t 14)), .f 16 0 15, .l 17 16, .f 18 0 4, .l 19 18, .i 20 (.call 63 [.t 17, .t 19]), .m 13 20, .i 21 (.extract 0 (.t 13)), .i 22 (.extract 1 (.t 13)), .i 7 (.alloc 32 [.st (.str (ByteArray.mk (#[]))), .full []]), .s 2 7 21, .m 8 22]) (.seq (.ops [.m 23 8]) (.cond (.t 23) (.seq (.ops [.m 24 0, .L 25 2 7, .i 26 (.callS 49 [.t 24, .t 25, .c (.one (.st (.bool false)))]), .s 2 6 26]) .ret) .skip))) .skip)) (.seq (.seq (.ops [.m 27 0, .i 28 (.nilCheck (.t 27)), .f 29 1 28, .l 30 29, .i 31 (.bin .sub (.t 30) (.n 1)), .i 32 (.nilCheck (.t 27)), .f 33 1 32, .s 1 33 31]) (.seq (.ops [.m 34 0, .i 35 (.nilCheck (.t 34)), .f 36 1 35, .l 37 36, .i 38 (.bin .lss (.t 37) (.n 0))]) (.cond (.t 38) (.seq (.ops [.i 39 (.build [.st (.str (ByteArray.mk (#[]))), .full []] []), .s 2 6 39]) .ret) .skip))) (.seq (.ops [.f 40 0 4, .l 41 40, .i 42 (.build [.st (.str (ByteArray.mk (#[]))), .full []] [(0, 1, .t 41)]), .i 9 (.alloc 32 [.st (.str (ByteArray.mk (#[]))), .full []]), .s 2 9 42]) (.seq (.seq (.ops [.f 43 1 4, .l 44 43, .i 45 (.len false (.t 44)), .i 46 (.mov (.n 0))]) (.block 0 (.loop (.seq (.ops [.i 47 (.bin .lss (.t 46) (.t 45))]) (.seq (.cond (.t 47) .skip (.exit 0)) (.seq (.block 1 (.seq (.ops [.i 48 (.indexAddr 2 (.t 44) (.t 46)), .L 49 2 48, .i 11 (.alloc 32 [.st (.str (ByteArray.mk (#[]))), .full []]), .s 2 11 49]) (.seq (.ops [.mk (some 50) none (.fieldAddr 1 (.t 9)) (.onb 9), .mk (some 51) none (.load false 1 (.t 50)) (.onb 9), .m 52 0, .L 53 2 11, .m 54 2, .mk (some 55) none (.callS 49 [.t 52, .t 53, .t 54]) (.keeps [9, 9]), .i 56 (.buildSlice false 32 2 [.t 55]), .i 57 (.append false 32 2 40 (.t 51) (.t 56)), .f 58 1 9, .s 1 58 57]) (.seq (.ops [.m 59 0, .i 60 (.nilCheck (.t 59)), .f 61 1 60, .l 62 61, .i 63 (.bin .lss (.t 62) (.n 0))]) (.cond (.t 63) (.seq (.ops [.i 64 (.build [.st (.str (ByteArray.mk (#[]))), .full []] []), .s 2 6 64]) .ret) .skip))))) (.ops [.i 65 (.bin .add (.t 46) (.n 1)), .m 46 65]))))))) (.seq (.ops [.L 66 2 9, .s 2 6 66]) .ret))))))
theorem B6 : OkF Tryd.prog 49 67 [26, 55] BZ [.cell 6 true 2] := .of Tryd.func49 rfl rfl (by kernel_rfl) rfl
def H2 : IR :=
 (.seq (.ops [.i 3 (.box 32 (.t 1)), .i 4 (.alloc 32 [.st (.str (ByteArray.mk (#[]))), .full []]), .i 5 (.mov (.c (.one (.st (.bool false)))))]) (.seq (.ops [.m 8 0, .i 9 (.build [.full [], .st (.int .i64 0)] [(0, 1, .t 8), (1, 1, .n 2000)]), .i 10 (.box 87 (.t 9)), .m 6 10]) (.seq (.ops [.m 11 6, .L 12 2 3, .i 13 (.callS 49 [.t 11, .t 12, .c (.one (.st (.bool true)))]), .i 7 (.alloc 32 [.st (.str (ByteArray.mk (#[]))), .full []]), .s 2 7 13]) (.seq (.ops [.L 14 2 7, .m 15 6, .mk (some 16) none (.nilCheck (.t 15)) (.onb 10), .mk (some 17) none (.fieldAddr 1 (.t 16)) (.onb 10), .mk (some 18) none (.load false 1 (.t 17)) (.onb 10), .i 19 (.bin .geq (.t 18) (.n 0)), .mk none none (.store 2 (.t 4) (.t 14)) (.onb 4), .m 5 19]) .ret))))
theorem ND : OkF Tryd.prog 30 20 [13, 10060010] H2 [.cell 4 true 2, .t 5] := .of Tryd.func30 rfl rfl (by kernel_rfl) rfl

theorem Pb (a : ByteArray) : Aa Tryd.prog 70 [Bg a] (Af false) := by
 refine Fu.ac fun C hC => ?_
 unfold DY
 repeat' with_reducible first | refine W ?_ | refine Z0 ?_ | ((first | refine Wo fun K hK => ?_ | refine Wq ?_ | refine Wr ?_); (try simp only [go_sem, fN, seval, eT, iR]); (repeat refine Ai ?_); (try (refine hK _ ?_; clear hK K)))
 simp only [go_sem, fN, seval, AO, AS.result, AB, AD, AI]
theorem QT (a b : ByteArray) : Aa Tryd.prog 62 [Bg a, Bg b] (AR (Ep a b)) := by
 refine E3.ac fun C hC => ?_
 unfold C7
 repeat' (first | (with_reducible first | refine W ?_ | refine Z0 ?_ | ((first | refine Wo fun K hK => ?_ | refine Wq ?_ | refine Wr ?_); (try simp only [go_sem, fN, seval, eT, iR]); (repeat refine Ai ?_); (try (refine hK _ ?_; clear hK K)))) | refine Cg _ (Pb a) ?_ | refine Cg _ (Pb b) ?_)
 with_reducible refine Wp ?_
 simp only [go_sem, fN, seval, true_implies, false_implies, implies_true, dT, dF, nL]
 (try with_reducible refine iC ?_)
 repeat' with_reducible first | refine W ?_ | refine Z0 ?_ | ((first | refine Wo fun K hK => ?_ | refine Wq ?_ | refine Wr ?_); (try simp only [go_sem, fN, seval, eT, iR]); (repeat refine Ai ?_); (try (refine hK _ ?_; clear hK K)))
 with_reducible refine Wp ?_
 simp only [go_sem, fN, seval, true_implies, false_implies, implies_true, dT, dF, nL]
 (try with_reducible refine iC ?_)
 repeat' with_reducible first | refine W ?_ | refine Z0 ?_ | ((first | refine Wo fun K hK => ?_ | refine Wq ?_ | refine Wr ?_); (try simp only [go_sem, fN, seval, eT, iR]); (repeat refine Ai ?_); (try (refine hK _ ?_; clear hK K)))
 unfold Ep
 cases h : sLt a b with
 | true =>
  with_reducible refine Wp ?_
  simp only [go_sem, fN, seval, true_implies, false_implies, implies_true, dT, dF, nL]
  (try with_reducible refine iC ?_)
  repeat' with_reducible first | refine W ?_ | refine Z0 ?_ | ((first | refine Wo fun K hK => ?_ | refine Wq ?_ | refine Wr ?_); (try simp only [go_sem, fN, seval, eT, iR]); (repeat refine Ai ?_); (try (refine hK _ ?_; clear hK K)))
  simp only [go_sem, fN, seval, AO, AS.result, AB, AD, AI]
 | false =>
  with_reducible refine Wp ?_
  simp only [go_sem, fN, seval, true_implies, false_implies, implies_true, dT, dF, nL]
  (try with_reducible refine iC ?_)
  by_cases he : a = b
  ·repeat' with_reducible first | refine W ?_ | refine Z0 ?_ | ((first | refine Wo fun K hK => ?_ | refine Wq ?_ | refine Wr ?_); (try simp only [go_sem, fN, seval, eT, iR, h, he, Bool.or_true, Bool.or_false]); (repeat refine Ai ?_); (try (refine hK _ ?_; clear hK K)))
   with_reducible refine Wp ?_
   simp only [go_sem, fN, seval, true_implies, false_implies, implies_true, dT, dF, nL, h, he, Bool.or_true, Bool.or_false]
   (try with_reducible refine iC ?_)
   repeat' with_reducible first | refine W ?_ | refine Z0 ?_ | ((first | refine Wo fun K hK => ?_ | refine Wq ?_ | refine Wr ?_); (try simp only [go_sem, fN, seval, eT, iR]); (repeat refine Ai ?_); (try (refine hK _ ?_; clear hK K)))
   simp only [go_sem, fN, seval, AO, AS.result, AB, AD, AI, h, he]
  ·repeat' with_reducible first | refine W ?_ | refine Z0 ?_ | ((first | refine Wo fun K hK => ?_ | refine Wq ?_ | refine Wr ?_); (try simp only [go_sem, fN, seval, eT, iR, h, he, Bool.or_true, Bool.or_false]); (repeat refine Ai ?_); (try (refine hK _ ?_; clear hK K)))
   with_reducible refine Wp ?_
   simp only [go_sem, fN, seval, true_implies, false_implies, implies_true, dT, dF, nL, h, he, Bool.or_true, Bool.or_false]
   (try with_reducible refine iC ?_)
   repeat' with_reducible first | refine W ?_ | refine Z0 ?_ | ((first | refine Wo fun K hK => ?_ | refine Wq ?_ | refine Wr ?_); (try simp only [go_sem, fN, seval, eT, iR]); (repeat refine Ai ?_); (try (refine hK _ ?_; clear hK K)))
   simp only [go_sem, fN, seval, AO, AS.result, AB, AD, AI, h, he]
theorem Tn (b : Bd) (n : ByteArray) : Aa Tryd.prog 72 [aBd b, Bg n] (AR (Ep b.1 n)) := by
 refine IK.ac fun C hC => ?_
 unfold Ez
 repeat' (first | (with_reducible first | refine W ?_ | refine Z0 ?_ | ((first | refine Wo fun K hK => ?_ | refine Wq ?_ | refine Wr ?_); (try simp only [go_sem, fN, seval, eT, iR]); (repeat refine Ai ?_); (try (refine hK _ ?_; clear hK K)))) | refine Cg _ (QT b.1 n) ?_)
 simp only [go_sem, fN, seval, AO, AS.result, AB, AD, AI]
theorem CA {a b : ByteArray} : Ep a b < 0 ↔ sLt a b = true := by
 unfold Ep
 split
 ·rename_i h; simp [h]
 ·rename_i h
  split <;> simp [h]
theorem KR {a b : ByteArray} : Ep a b = 0 ↔ a = b := by
 unfold Ep
 split
 ·rename_i h
  constructor
  ·intro h'; cases h'
  ·intro e; subst e; rw [DE] at h; cases h
 ·split <;> simp_all
def B9 (l : List Bd) (n : ByteArray) (i : Nat) : Bool := match l[i]? with
 | some b => decide (b.1 = n)
 | none => false
theorem IV (b : Bd) (n : ByteArray) (S : AA) : Am Tryd.prog 72 [aBd b, Bg n] S (AR (Ep b.1 n)) S := (Tn b n).toS rfl
theorem Uk {i j : Nat} (h : i < j) : (((i : Int) + j).fdiv 2) = (((i + j) / 2 : Nat) : Int) ∧ i ≤ (i + j) / 2 ∧ (i + j) / 2 < j := by
 refine ⟨?_, by omega, by omega⟩
 rw [Int.fdiv_eq_ediv_of_nonneg _ (by omega)]
 omega
theorem O5 (n : Int) : inR .u64 n ↔ 0 ≤ n ∧ n ≤ 18446744073709551615 := by
 simp [inR, IntKind.min, IntKind.max, IntKind.signed, IntKind.bits]
theorem M4 (l : List Bd) (h40 : l.length ≤ 100000) (ho : BB l) (n : ByteArray) :
  ∃ i : Nat, i ≤ l.length ∧ (∀ k b, l[k]? = some b → k < i → sLt b.1 n = true) ∧ (∀ k b, l[k]? = some b → i ≤ k → sLt b.1 n = false) ∧
   Aa Tryd.prog 71 [Nn l, Bg n, .one (.fn 72 [])] (.tup [AR i, Af (B9 l n i)]) := by
 obtain ⟨i0, hi0, hlo, hhi⟩ : ∃ i : Nat, i ≤ l.length ∧ (∀ k b, l[k]? = some b → k < i → sLt b.1 n = true) ∧ (∀ k b, l[k]? = some b → i ≤ k → sLt b.1 n = false) := by
  clear h40
  induction l with
  | nil => exact ⟨0, by simp, by simp, by simp⟩
  | cons c l ih =>
   obtain ⟨o1, o2⟩ := List.pairwise_cons.1 ho
   obtain ⟨i, q1, q2, q3⟩ := ih o2
   cases hc : sLt c.1 n with
   | true =>
    refine ⟨i + 1, by simp; omega, fun k b hk hki => ?_, fun k b hk hki => ?_⟩
    ·cases k with
     | zero => simp at hk; subst hk; exact hc
     | succ k => exact q2 k b (by simpa using hk) (by omega)
    ·cases k with
     | zero => omega
     | succ k => exact q3 k b (by simpa using hk) (by omega)
   | false =>
    refine ⟨0, by simp, fun k b hk hki => by omega, fun k b hk hki => ?_⟩
    cases k with
    | zero => simp at hk; subst hk; exact hc
    | succ k =>
     have hm := AW (show l[k]? = some b by simpa using hk)
     cases hb : sLt b.1 n with
     | false => rfl
     | true => have := EE (o1 b hm) hb; rw [hc] at this; cases this
 refine ⟨i0, hi0, hlo, hhi, ?_⟩
 have hplain : Bu Tryd.prog 72 = true := by kernel_rfl
 refine A9.ac fun C hC => ?_
 unfold Ah
 repeat' with_reducible first | refine W ?_ | refine Z0 ?_ | ((first | refine Wo fun K hK => ?_ | refine Wq ?_ | refine Wr ?_); (try simp only [go_sem, fN, seval, eT, iR]); (repeat refine Ai ?_); (try (refine hK _ ?_; clear hK K)))
 refine IWP.loop (fun m s => ∃ i j : Nat, i ≤ i0 ∧ i0 ≤ j ∧ j ≤ l.length ∧ m = j - i ∧ s.env 0 = Nn l ∧ s.env 1 = Bg n ∧ s.env 2 = .one (.fn 72 []) ∧ s.env 8 = AR l.length ∧ s.env 9 = AR i ∧ s.env 10 = AR j) l.length ⟨0, l.length, Nat.zero_le _, hi0, Nat.le_refl _, rfl, rfl, rfl, rfl, rfl, rfl, rfl⟩ ?_
 rintro m ⟨env, S⟩ ⟨i, j, hi, hj, hjl, rfl, e0, e1, e2, e8, e9, e10⟩
 simp only at e0 e1 e2 e8 e9 e10
 by_cases hlt : (i : Int) < j
 ·obtain ⟨z1, z2, z3⟩ := Uk (show i < j by omega)
  obtain ⟨b, hb⟩ := Ao (show (i + j) / 2 < l.length by omega)
  repeat' with_reducible first | refine W ?_ | refine Z0 ?_ | ((first | refine Wo fun K hK => ?_ | refine Wq ?_ | refine Wr ?_); (try simp only [go_sem, fN, seval, eT, iR, e0, e1, e2, e8, e9, e10, hlt]); (repeat refine Ai ?_); (try (refine hK _ ?_; clear hK K)))
  with_reducible refine Wp ?_
  simp only [go_sem, fN, seval, true_implies, false_implies, implies_true, dT, dF, nL, hlt]
  (try with_reducible refine iC ?_)
  have hbits : (1 : Nat) ≤ IntKind.u64.bits := by show 1 ≤ 64; omega
  repeat' with_reducible first | refine W ?_ | refine Z0 ?_ | ((first | refine Wo fun K hK => ?_ | refine Wq ?_ | refine Wr ?_); (try simp only [go_sem, fN, seval, eT, iR, e0, e1, e2, e8, e9, e10, hlt, z1, O5, hbits, hb, CX, hplain]); (repeat refine Ai ?_); (try (refine hK _ ?_; clear hK K)))
  refine ⟨_, _, IV b n _, ?_⟩
  cases hc : sLt b.1 n with
  | true =>
   have hneg : Ep b.1 n < 0 := CA.2 hc
   repeat' with_reducible first | refine W ?_ | refine Z0 ?_ | ((first | refine Wo fun K hK => ?_ | refine Wq ?_ | refine Wr ?_); (try simp only [go_sem, fN, seval, eT, iR, hneg]); (repeat refine Ai ?_); (try (refine hK _ ?_; clear hK K)))
   with_reducible refine Wp ?_
   simp only [go_sem, fN, seval, true_implies, false_implies, implies_true, dT, dF, nL, hneg]
   (try with_reducible refine iC ?_)
   repeat' with_reducible first | refine W ?_ | refine Z0 ?_ | ((first | refine Wo fun K hK => ?_ | refine Wq ?_ | refine Wr ?_); (try simp only [go_sem, fN, seval, eT, iR, e0, e1, e2, e8, e9, e10]); (repeat refine Ai ?_); (try (refine hK _ ?_; clear hK K)))
   refine AG ⟨j - ((i + j) / 2 + 1), by omega, (i + j) / 2 + 1, j, ?_, hj, hjl, rfl, ?_⟩
   ·rcases Nat.lt_or_ge ((i + j) / 2) i0 with h | h
    ·omega
    ·rw [hhi _ b hb h] at hc; cases hc
   ·simp only [go_sem, fN, seval, eT, iR, e0, e1, e2, e8, e9, e10]
    congr 3
  | false =>
   have hneg : ¬ Ep b.1 n < 0 := fun h => by rw [CA.1 h] at hc; cases hc
   repeat' with_reducible first | refine W ?_ | refine Z0 ?_ | ((first | refine Wo fun K hK => ?_ | refine Wq ?_ | refine Wr ?_); (try simp only [go_sem, fN, seval, eT, iR, hneg]); (repeat refine Ai ?_); (try (refine hK _ ?_; clear hK K)))
   with_reducible refine Wp ?_
   simp only [go_sem, fN, seval, true_implies, false_implies, implies_true, dT, dF, nL, hneg]
   (try with_reducible refine iC ?_)
   repeat' with_reducible first | refine W ?_ | refine Z0 ?_ | ((first | refine Wo fun K hK => ?_ | refine Wq ?_ | refine Wr ?_); (try simp only [go_sem, fN, seval, eT, iR, e0, e1, e2, e8, e9, e10]); (repeat refine Ai ?_); (try (refine hK _ ?_; clear hK K)))
   refine AG ⟨(i + j) / 2 - i, by omega, i, (i + j) / 2, hi, ?_, by omega, rfl, ?_⟩
   ·rcases Nat.lt_or_ge ((i + j) / 2) i0 with h | h
    ·rw [hlo _ b hb h] at hc; cases hc
    ·omega
   ·simp only [go_sem, fN, seval, eT, iR, e0, e1, e2, e8, e9, e10]
 ·have hii : i = i0 := by omega
  subst hii
  have hjj : j = i := by omega
  subst hjj
  repeat' with_reducible first | refine W ?_ | refine Z0 ?_ | ((first | refine Wo fun K hK => ?_ | refine Wq ?_ | refine Wr ?_); (try simp only [go_sem, fN, seval, eT, iR, e0, e1, e2, e8, e9, e10, hlt]); (repeat refine Ai ?_); (try (refine hK _ ?_; clear hK K)))
  with_reducible refine Wp ?_
  simp only [go_sem, fN, seval, true_implies, false_implies, implies_true, dT, dF, nL, hlt]
  (try with_reducible refine iC ?_)
  by_cases hil : (j : Int) < l.length
  ·obtain ⟨b, hb⟩ := Ao (show j < l.length by omega)
   repeat' with_reducible first | refine W ?_ | refine Z0 ?_ | ((first | refine Wo fun K hK => ?_ | refine Wq ?_ | refine Wr ?_); (try simp only [go_sem, fN, seval, eT, iR, e0, e1, e2, e8, e9, e10, hil, hb, CX, hplain]); (repeat refine Ai ?_); (try (refine hK _ ?_; clear hK K)))
   refine ⟨_, _, IV b n _, ?_⟩
   repeat' with_reducible first | refine W ?_ | refine Z0 ?_ | ((first | refine Wo fun K hK => ?_ | refine Wq ?_ | refine Wr ?_); (try simp only [go_sem, fN, seval, eT, iR]); (repeat refine Ai ?_); (try (refine hK _ ?_; clear hK K)))
   simp only [go_sem, fN, seval, AO, AS.result, AB, AD, AI]
   unfold B9
   rw [hb]
   simp only [KR]
  ·repeat' with_reducible first | refine W ?_ | refine Z0 ?_ | ((first | refine Wo fun K hK => ?_ | refine Wq ?_ | refine Wr ?_); (try simp only [go_sem, fN, seval, eT, iR, e0, e1, e2, e8, e9, e10, hil]); (repeat refine Ai ?_); (try (refine hK _ ?_; clear hK K)))
   simp only [go_sem, fN, seval, AO, AS.result, AB, AD, AI]
   unfold B9
   rw [List.getElem?_eq_none (by omega)]
theorem Gg {l : List Bd} {n : ByteArray} {i : Nat} (hlo : ∀ k b, l[k]? = some b → k < i → sLt b.1 n = true) (hhi : ∀ k b, l[k]? = some b → i ≤ k → sLt b.1 n = false) (ho : BB l) :
  (∃ b, l[i]? = some b ∧ b.1 = n ∧ lookup l n = some b.2) ∨ (B9 l n i = false ∧ lookup l n = none) := by
 have hlow : ∀ c ∈ l.take i, c.1 ≠ n := fun c hc e => by
  obtain ⟨k, hk, rfl⟩ := List.getElem_of_mem hc
  rw [List.length_take] at hk
  have := hlo k l[k] (List.getElem?_eq_getElem (by omega)) (by omega)
  rw [List.getElem_take] at e
  rw [e, DE] at this
  cases this
 by_cases hil : i < l.length
 ·obtain ⟨b, hb⟩ := Ao hil
  by_cases he : b.1 = n
  ·exact .inl ⟨b, hb, he, NS hb he hlow⟩
  ·refine .inr ⟨by unfold B9; rw [hb]; exact decide_eq_false he, D3 fun c hc e => ?_⟩
   obtain ⟨k, hk, rfl⟩ := List.getElem_of_mem hc
   have hck := List.getElem?_eq_getElem hk
   rcases Nat.lt_trichotomy k i with h | h | h
   ·have := hlo k _ hck h
    rw [e, DE] at this
    cases this
   ·subst h
    rw [hb] at hck
    cases hck
    exact he e
   ·have h1 := MS ho hb hck h
    rw [e, hhi i b hb (Nat.le_refl _)] at h1
    cases h1
 ·refine .inr ⟨by unfold B9; rw [List.getElem?_eq_none (by omega)], D3 fun c hc => hlow c ?_⟩
  rw [List.take_of_length_le (by omega)]
  exact hc
theorem R8 (l : List Bd) (h40 : l.length ≤ 100000) (ho : BB l) (n : ByteArray) : Aa Tryd.prog 63 [Nn l, Bg n] (.tup [aTm ((lookup l n).getD Tm.nil), Af (lookup l n).isSome]) := by
 obtain ⟨i, hi, hlo, hhi, hs⟩ := M4 l h40 ho n
 refine J8.ac fun C hC => ?_
 unfold F4
 repeat' with_reducible first | refine W ?_ | refine Z0 ?_ | ((first | refine Wo fun K hK => ?_ | refine Wq ?_ | refine Wr ?_); (try simp only [go_sem, fN, seval, eT, iR]); (repeat refine Ai ?_); (try (refine hK _ ?_; clear hK K)))
 refine ⟨_, hs, ?_⟩
 rcases Gg hlo hhi ho with ⟨b, hb, he, hl⟩ | ⟨hf, hl⟩
 ·have hf : B9 l n i = true := by unfold B9; rw [hb]; exact decide_eq_true he
  repeat' with_reducible first | refine W ?_ | refine Z0 ?_ | ((first | refine Wo fun K hK => ?_ | refine Wq ?_ | refine Wr ?_); (try simp only [go_sem, fN, seval, eT, iR, hf]); (repeat refine Ai ?_); (try (refine hK _ ?_; clear hK K)))
  with_reducible refine Wp ?_
  simp only [go_sem, fN, seval, true_implies, false_implies, implies_true, dT, dF, nL, hf]
  (try with_reducible refine iC ?_)
  repeat' with_reducible first | refine W ?_ | refine Z0 ?_ | ((first | refine Wo fun K hK => ?_ | refine Wq ?_ | refine Wr ?_); (try simp only [go_sem, fN, seval, eT, iR, hb, CX]); (repeat refine Ai ?_); (try (refine hK _ ?_; clear hK K)))
  simp only [go_sem, fN, seval, AO, AS.result, AB, AD, AI]
  rw [hl]
  rfl
 ·repeat' with_reducible first | refine W ?_ | refine Z0 ?_ | ((first | refine Wo fun K hK => ?_ | refine Wq ?_ | refine Wr ?_); (try simp only [go_sem, fN, seval, eT, iR, hf]); (repeat refine Ai ?_); (try (refine hK _ ?_; clear hK K)))
  with_reducible refine Wp ?_
  simp only [go_sem, fN, seval, true_implies, false_implies, implies_true, dT, dF, nL, hf]
  (try with_reducible refine iC ?_)
  repeat' with_reducible first | refine W ?_ | refine Z0 ?_ | ((first | refine Wo fun K hK => ?_ | refine Wq ?_ | refine Wr ?_); (try simp only [go_sem, fN, seval, eT, iR]); (repeat refine Ai ?_); (try (refine hK _ ?_; clear hK K)))
  simp only [go_sem, fN, seval, AO, AS.result, AB, AD, AI]
  rw [hl]
  rfl

def BH (s : List Bd) (t : Tm) : Tm × Bool := if (t.on s).size ≤ 2000 then (t.on s, true) else (Tm.nil, false)

structure Ren (f : ByteArray → ByteArray) : Prop where
 inv : ∀ n, f (f n) = n
 var : ∀ n, AQ (f n) = AQ n
 con : ∀ n, AQ n = false → f n = n
theorem Ren.inj {f : ByteArray → ByteArray} (hf : Ren f) {a b : ByteArray} : f a = f b ↔ a = b := ⟨fun h => by rw [← hf.inv a, h, hf.inv], fun h => by rw [h]⟩
mutual
def Tm.ren (f : ByteArray → ByteArray) : Tm → Tm
 | .mk n xs => .mk (f n) (Tm.renL f xs)
def Tm.renL (f : ByteArray → ByteArray) : List Tm → List Tm
 | [] => []
 | x :: xs => x.ren f :: Tm.renL f xs
end
section
variable {f : ByteArray → ByteArray}
theorem EO : ∀ {l : List Bd}, Ba l → ∀ {n : ByteArray} {t : Tm}, lookup l n = some t ↔ (n, t) ∈ l
 | [], _, n, t => by simp [lookup]
 | b :: l, h, n, t => by
  have h' : b.1 ∉ l.map (·.1) ∧ Ba l := by
   unfold Ba at h
   rw [List.map_cons, List.nodup_cons] at h
   exact h
  have ih := EO h'.2 (n := n) (t := t)
  unfold lookup at ih ⊢
  rw [List.find?_cons]
  by_cases hb : b.1 = n
  ·rw [decide_eq_true hb]
   constructor
   ·intro h2
    cases h2
    exact List.mem_cons.2 (.inl (by rw [← hb]))
   ·intro h2
    rcases List.mem_cons.1 h2 with h2 | h2
    ·rw [← h2]
     rfl
    ·exact absurd (List.mem_map.2 ⟨_, h2, hb.symm⟩) h'.1
  ·rw [decide_eq_false hb, ih]
   constructor
   ·exact fun h2 => List.mem_cons_of_mem _ h2
   ·intro h2
    rcases List.mem_cons.1 h2 with h2 | h2
    ·rw [← h2] at hb
     exact absurd rfl hb
    ·exact h2
theorem MZ {l m : List Bd} (hp : l.Perm m) (hn : Ba m) (n : ByteArray) : lookup l n = lookup m n := by
 have hl := Dm hp.symm hn
 cases h : lookup m n with
 | some t => exact (EO hl).2 (hp.mem_iff.2 ((EO hn).1 h))
 | none =>
  cases h2 : lookup l n with
  | none => rfl
  | some t =>
   rw [(EO hn).2 (hp.mem_iff.1 ((EO hl).1 h2))] at h
   cases h
theorem Ia (s : List Bd) (x n : ByteArray) (t : Tm) : lookup (s ++ [(x, t)]) n = (lookup s n).or (if x = n then some t else none) := by
 unfold lookup
 rw [List.find?_append]
 cases h : s.find? fun b => decide (b.1 = n) with
 | some b => simp
 | none =>
  by_cases hx : x = n
  ·simp [hx]
  ·simp [hx]
structure TQ (f : ByteArray → ByteArray) (s s' : List Bd) : Prop where
 n1 : Ba s
 n2 : Ba s'
 eq : ∀ n, lookup s' (f n) = (lookup s n).map (Tm.ren f)
theorem TQ.nil (f : ByteArray → ByteArray) : TQ f [] [] := ⟨List.nodup_nil, List.nodup_nil, fun _ => rfl⟩
theorem TQ.one (hf : Ren f) (x : ByteArray) (t : Tm) : TQ f [(x, t)] [(f x, t.ren f)] := ⟨by simp [Ba], by simp [Ba], fun n => by
 have h1 := Ia [] x n t
 have h2 := Ia [] (f x) (f n) (t.ren f)
 rw [List.nil_append] at h1 h2
 rw [h1, h2]
 by_cases h : x = n
 ·simp [lookup, h]
 ·simp [lookup, h, mt hf.inj.1 h]⟩
end

mutual
def Tm.mt : Tm → Tm → List Bd → List Bd × Bool
 | .mk n xs, t, l => if AQ n = true then (match lookup l n with
   | some x => (l, x.beq t)
   | none => (l ++ [(n, t)], true))
  else if n = t.name ∧ xs.length = t.args.length then Tm.mtL xs t.args l else (l, false)
def Tm.mtL : List Tm → List Tm → List Bd → List Bd × Bool
 | x :: xs, y :: ys, l => if (x.mt y l).2 = true then Tm.mtL xs ys (x.mt y l).1 else ((x.mt y l).1, false)
 | _, _, l => (l, true)
end
section
variable {p t : Tm} {l : List Bd}
theorem Tm.mt_old (hv : AQ p.name = true) {x : Tm} (h : lookup l p.name = some x) : p.mt t l = (l, x.beq t) := by
 cases p with
 | mk n xs =>
  simp only [Tm.name_mk] at hv h
  rw [Tm.mt, if_pos hv, h]
theorem Tm.mt_new (hv : AQ p.name = true) (h : lookup l p.name = none) : p.mt t l = (l ++ [(p.name, t)], true) := by
 cases p with
 | mk n xs =>
  simp only [Tm.name_mk] at hv h
  rw [Tm.mt, if_pos hv, h]
  rfl
theorem Tm.mt_clash (hv : AQ p.name = false) (h : ¬ (p.name = t.name ∧ p.args.length = t.args.length)) : p.mt t l = (l, false) := by
 cases p with
 | mk n xs =>
  simp only [Tm.name_mk, Tm.args_mk] at hv h
  rw [Tm.mt, if_neg (by simp [hv]), if_neg h]
theorem Tm.mt_knot (hv : AQ p.name = false) (h1 : p.name = t.name) (h2 : p.args.length = t.args.length) : p.mt t l = Tm.mtL p.args t.args l := by
 cases p with
 | mk n xs =>
  simp only [Tm.name_mk, Tm.args_mk] at hv h1 h2
  rw [Tm.mt, if_neg (by simp [hv]), if_pos ⟨h1, h2⟩]
  rfl
end
theorem Tm.mtL_nil (ys : List Tm) (l : List Bd) : Tm.mtL [] ys l = (l, true) := by cases ys <;> simp [Tm.mtL]
theorem Tm.mtL_append : ∀ (xs ys xs' ys' : List Tm) (l : List Bd), xs.length = ys.length → Tm.mtL (xs ++ xs') (ys ++ ys') l = if (Tm.mtL xs ys l).2 = true then Tm.mtL xs' ys' (Tm.mtL xs ys l).1 else ((Tm.mtL xs ys l).1, false)
 | [], [], xs', ys', l, _ => by simp [Tm.mtL_nil]
 | x :: xs, y :: ys, xs', ys', l, h => by
  simp only [List.cons_append, Tm.mtL]
  by_cases hx : (x.mt y l).2 = true
  ·simp only [hx, if_true]
   exact Tm.mtL_append xs ys xs' ys' _ (by simpa using h)
  ·simp only [hx]
   simp
 | [], y :: ys, _, _, _, h => by simp at h
 | x :: xs, [], _, _, _, h => by simp at h
theorem Tm.mtL_take {xs ys : List Tm} {k : Nat} {x y : Tm} {l : List Bd} (hl : xs.length = ys.length) (hx : xs[k]? = some x) (hy : ys[k]? = some y) (h : (Tm.mtL (xs.take k) (ys.take k) l).2 = true) :
  Tm.mtL (xs.take (k + 1)) (ys.take (k + 1)) l = x.mt y (Tm.mtL (xs.take k) (ys.take k) l).1 := by
 rw [Aq hx, Aq hy, Tm.mtL_append _ _ _ _ _ (by simp [hl]), if_pos h]
 generalize Tm.mtL (xs.take k) (ys.take k) l = q
 simp only [Tm.mtL]
 split
 ·rename_i h1
  exact Prod.ext rfl h1.symm
 ·rename_i h1
  exact Prod.ext rfl (by simpa using h1)
theorem Tm.mtL_no {xs ys : List Tm} {k : Nat} {l : List Bd} (hl : xs.length = ys.length) (h : (Tm.mtL (xs.take k) (ys.take k) l).2 = false) : Tm.mtL xs ys l = ((Tm.mtL (xs.take k) (ys.take k) l).1, false) := by
 have e : Tm.mtL xs ys l = Tm.mtL (xs.take k ++ xs.drop k) (ys.take k ++ ys.drop k) l := by rw [List.take_append_drop, List.take_append_drop]
 rw [e, Tm.mtL_append _ _ _ _ _ (by simp [hl]), h]
 rfl
structure IG (l l' : List Bd) (many most : Nat) : Prop where
 named : Ba l → Ba l'
 len : l'.length ≤ l.length + many
 size : ∀ b ∈ l', b ∈ l ∨ b.2.size ≤ most
theorem IG.refl (l : List Bd) (n m : Nat) : IG l l n m := ⟨fun h => h, by omega, fun b hb => .inl hb⟩
theorem IG.trans {a b c : List Bd} {n m k n' m' : Nat} (h : IG a b n m) (h' : IG b c n' m') (hn : n + n' ≤ k) {M : Nat} (h1 : m ≤ M) (h2 : m' ≤ M) : IG a c k M := by
 refine ⟨fun q => h'.named (h.named q), by have := h.len; have := h'.len; omega, fun x hx => ?_⟩
 rcases h'.size x hx with h3 | h3
 ·rcases h.size x h3 with h4 | h4
  ·exact .inl h4
  ·exact .inr (by omega)
 ·exact .inr (by omega)
theorem L2 {l : List Bd} {n : ByteArray} (h : lookup l n = none) : n ∉ l.map (·.1) := by
 intro hm
 obtain ⟨b, hb, rfl⟩ := List.mem_map.1 hm
 unfold lookup at h
 rw [Option.map_eq_none_iff, List.find?_eq_none] at h
 exact h b hb (by simp)
theorem OD {l : List Bd} {b : Bd} (h : lookup l b.1 = none) (hn : Ba l) : Ba (l ++ [b]) := by
 unfold Ba at *
 rw [List.map_append, List.nodup_append]
 refine ⟨hn, by simp, fun x hx y hy e => ?_⟩
 simp only [List.map_cons, List.map_nil, List.mem_singleton] at hy
 subst hy
 subst e
 exact L2 h hx
mutual
theorem Tm.mt_ok : ∀ (p t : Tm) (l : List Bd), IG l (p.mt t l).1 p.size t.size
 | .mk n xs, t, l => by
  rw [Tm.mt]
  split
  ·split
   ·exact IG.refl _ _ _
   ·rename_i h
    refine ⟨fun hn => OD h hn, ?_, fun b hb => ?_⟩
    ·have := Tm.size_pos (.mk n xs)
     rw [List.length_append, List.length_singleton]
     omega
    ·rcases List.mem_append.1 hb with hb | hb
     ·exact .inl hb
     ·rw [List.mem_singleton] at hb
      subst hb
      exact .inr (Nat.le_refl _)
  ·split
   ·have := Tm.mtL_ok xs t.args l
    have h1 := Tm.size_eq t
    exact ⟨this.named, by have := this.len; rw [Tm.size]; omega, fun b hb => (this.size b hb).imp_right (by omega)⟩
   ·exact IG.refl _ _ _
theorem Tm.mtL_ok : ∀ (xs ys : List Tm) (l : List Bd), IG l (Tm.mtL xs ys l).1 (Tm.sizes xs) (Tm.sizes ys)
 | [], ys, l => by rw [Tm.mtL_nil]; exact IG.refl _ _ _
 | x :: xs, [], l => by rw [Tm.mtL]; exact IG.refl _ _ _; simp
 | x :: xs, y :: ys, l => by
  rw [Tm.mtL]
  have h1 := Tm.mt_ok x y l
  split
  ·exact h1.trans (Tm.mtL_ok xs ys _) (by rw [Tm.sizes]; exact Nat.le_refl _) (by rw [Tm.sizes]; omega) (by rw [Tm.sizes]; omega)
  ·exact ⟨h1.named, by have := h1.len; rw [Tm.sizes]; show (x.mt y l).1.length ≤ _; omega, fun b hb => (h1.size b hb).imp_right (by rw [Tm.sizes]; omega)⟩
end
def CM (p t : Tm) : List Bd := if (p.mt t []).2 = true then BQ (p.mt t []).1 else []
def GH (p t : Tm) : Bool := (p.mt t []).2
theorem Qo : Ba [] := List.nodup_nil
theorem MW (p t : Tm) : Ba (p.mt t []).1 := (Tm.mt_ok p t []).named Qo
theorem RU (p t : Tm) : (p.mt t []).1.length ≤ p.size := by have := (Tm.mt_ok p t []).len; simpa using this
theorem TI (p t : Tm) : ∀ b ∈ (p.mt t []).1, b.2.size ≤ t.size := fun b hb => ((Tm.mt_ok p t []).size b hb).resolve_left (by simp)

end Go.Proofs.YtiaopkfapnajaaaDoor
