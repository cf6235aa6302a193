/-
  Part 6 of the texts. Conditions: none.
-/
import Derived.Test.YtcgnojefbalbbaaDoorClP5
namespace Go.Proofs.YtcgnojefbalbbaaDoor
open Go Go.RowKit
set_option linter.unusedVariables false
mutual
def Lm.wf : Lm → Prop
 | .mk k i xs => (1 ≤ k ∧ k ≤ 5 ∧ (xs.length : Int) = CH k) ∧ Lm.wfs xs
def Lm.wfs : List Lm → Prop
 | [] => True
 | t :: ts => t.wf ∧ Lm.wfs ts
end
theorem Lm.wf_eq (t : Lm) : t.wf ↔ ((1 ≤ t.kind ∧ t.kind ≤ 5 ∧ (t.subs.length : Int) = CH t.kind) ∧ Lm.wfs t.subs) := by cases t; exact Iff.rfl
theorem Lm.wfs_iff {xs : List Lm} : Lm.wfs xs ↔ ∀ t ∈ xs, t.wf := by
 induction xs with
 | nil => simp [Lm.wfs]
 | cons x xs ih => simp [Lm.wfs, ih]
theorem Lm.goods_iff {b : Int} {xs : List Lm} : Lm.goods b xs ↔ ∀ t ∈ xs, t.good b := by
 induction xs with
 | nil => simp [Lm.goods]
 | cons x xs ih => simp [Lm.goods, ih]
theorem Lm.wf_sub {t a : Lm} (h : t.wf) (ha : a ∈ t.subs) : a.wf := Lm.wfs_iff.1 ((Lm.wf_eq t).1 h).2 a ha
mutual
theorem Lm.wf_chk {m : Int} : ∀ (t : Lm) (u : Int), t.chk m u = 0 → t.wf
 | .mk k i xs, u, h => by
  rw [Lm.chk] at h
  split at h
  ·rename_i hk
   split at h
   ·exact ⟨hk, Lm.wfs_chk xs _ h⟩
   ·omega
  ·omega
theorem Lm.wfs_chk {m : Int} : ∀ (xs : List Lm) (u : Int), Lm.chks m xs u = 0 → Lm.wfs xs
 | [], _, _ => trivial
 | t :: ts, u, h => by
  rw [Lm.chks] at h
  split at h
  ·rename_i e
   exact ⟨Lm.wf_chk t u e, Lm.wfs_chk ts u h⟩
  ·rename_i e
   exact absurd h e
end
theorem Lm.mvs_length (b d : Int) (xs : List Lm) : (Lm.mvs b d xs).length = xs.length := by rw [Lm.mvs_eq, List.length_map]
mutual
theorem Lm.wf_mv {b : Int} : ∀ (d : Int) (t : Lm), t.wf → (Lm.mv b d t).wf
 | d, .mk k i xs, h => ⟨by rw [Lm.mvs_length]; exact h.1, Lm.wfs_mv _ xs h.2⟩
theorem Lm.wfs_mv {b : Int} : ∀ (d : Int) (xs : List Lm), Lm.wfs xs → Lm.wfs (Lm.mvs b d xs)
 | _, [], _ => trivial
 | d, t :: ts, h => ⟨Lm.wf_mv d t h.1, Lm.wfs_mv d ts h.2⟩
end
theorem IA (k d : Int) : A2 k d ≤ d + 1 ∧ d ≤ A2 k d := by unfold A2; split <;> omega
def Lm.top (k : Int) (xs : List Lm) : Option Lm := match xs with
 | f :: x :: _ => if k = 3 ∧ f.kind = 2 then (match f.subs with | b :: _ => some (Lm.put x 0 b) | [] => none) else none
 | _ => none
mutual
def Lm.outer : Lm → Option Lm
 | .mk k i xs => match Lm.top k xs with
  | some y => some y
  | none => match Lm.outers xs with
   | some ys => some (.mk k i ys)
   | none => none
def Lm.outers : List Lm → Option (List Lm)
 | [] => none
 | t :: ts => match t.outer with
  | some x => some (x :: ts)
  | none => match Lm.outers ts with
   | some ys => some (t :: ys)
   | none => none
end
theorem NJ {α : Type} {xs : List α} (h : (xs.length : Int) = 1) : ∃ a, xs = [a] := by
 match xs, h with
 | [a], _ => exact ⟨a, rfl⟩
 | [], h => simp at h
 | _ :: _ :: _, h => simp at h; omega
theorem NI {α : Type} {xs : List α} (h : (xs.length : Int) = 2) : ∃ a b, xs = [a, b] := by
 match xs, h with
 | [a, b], _ => exact ⟨a, b, rfl⟩
 | [], h => simp at h
 | [_], h => simp at h
 | _ :: _ :: _ :: _, h => simp at h; omega
theorem Lm.subs1 {t : Lm} (h : t.wf) (hk : t.kind = 2) : ∃ a, t.subs = [a] := by
 have := ((Lm.wf_eq t).1 h).1.2.2
 rw [hk] at this
 exact NJ this
theorem Lm.subs2 {t : Lm} (h : t.wf) (hk : t.kind = 3) : ∃ a b, t.subs = [a, b] := by
 have := ((Lm.wf_eq t).1 h).1.2.2
 rw [hk] at this
 exact NI this
def Lm.run : Nat → Int → Lm → Lm × Int × Int
 | left, n, t => match t.outer with
  | none => (t, n, 0)
  | some x => match left with
   | 0 => (Lm.nil, 0, 9)
   | left + 1 => if 2000 < x.size then (Lm.nil, 0, 8) else Lm.run left (n + 1) x

mutual
def Lm.has : Int → Lm → Bool
 | d, .mk k i xs => if k = 1 then decide (i = d) else Lm.hass (A2 k d) xs
def Lm.hass : Int → List Lm → Bool
 | _, [] => false
 | d, t :: ts => Lm.has d t || Lm.hass d ts
end
theorem Lm.has_eq (d : Int) (t : Lm) : Lm.has d t = if t.kind = 1 then decide (t.idx = d) else Lm.hass (A2 t.kind d) t.subs := by cases t; rfl
theorem Lm.hass_append (d : Int) (xs ys : List Lm) : Lm.hass d (xs ++ ys) = (Lm.hass d xs || Lm.hass d ys) := by
 induction xs with
 | nil => simp [Lm.hass]
 | cons x xs ih => simp [Lm.hass, ih, Bool.or_assoc]
theorem Lm.hass_take {d : Int} {xs : List Lm} {k : Nat} {a : Lm} (ha : xs[k]? = some a) (h : Lm.hass d (xs.take k) = false) : Lm.hass d (xs.take (k + 1)) = Lm.has d a := by
 rw [A9 ha, Lm.hass_append, h]
 simp [Lm.hass]
theorem Lm.hass_yes {d : Int} {xs : List Lm} {k : Nat} (h : Lm.hass d (xs.take k) = true) : Lm.hass d xs = true := by
 have := Lm.hass_append d (xs.take k) (xs.drop k)
 rw [List.take_append_drop, h] at this
 simpa using this
mutual
theorem Lm.good_down {c : Int} : ∀ (d : Int) (t : Lm), 0 ≤ d → t.good c → Lm.has d t = false → (Lm.mv (-1) d t).good c
 | d, .mk k i xs, hd, h, hh => by
  rw [Lm.has] at hh
  have h2 := h.2.1
  have h3 := h.2.2.1
  have hu := IA k d
  by_cases hk : k = 1
  ·rw [if_pos hk] at hh
   have hne : ¬ i = d := by simpa using hh
   have hx := h.1 hk
   subst hx
   refine ⟨fun _ => rfl, ?_, ?_, trivial⟩
   ·split <;> omega
   ·split <;> omega
  ·rw [if_neg hk] at hh
   refine ⟨fun e => absurd e hk, ?_, ?_, Lm.goods_down _ xs (by omega) h.2.2.2 hh⟩
   ·rw [if_neg (fun e => hk e.1)]; exact h2
   ·rw [if_neg (fun e => hk e.1)]; exact h3
theorem Lm.goods_down {c : Int} : ∀ (d : Int) (xs : List Lm), 0 ≤ d → Lm.goods c xs → Lm.hass d xs = false → Lm.goods c (Lm.mvs (-1) d xs)
 | _, [], _, _, _ => trivial
 | d, t :: ts, hd, h, hh => by
  rw [Lm.hass, Bool.or_eq_false_iff] at hh
  exact ⟨Lm.good_down d t hd h.1 hh.1, Lm.goods_down d ts hd h.2 hh.2⟩
end
def Lm.etaAt (ys : List Lm) : Option Lm := match ys with
 | b :: _ => if b.kind = 3 then (match b.subs with | f :: x :: _ => if x.kind = 1 ∧ x.idx = 0 ∧ Lm.has 0 f = false then some (Lm.mv (-1) 0 f) else none | _ => none) else none
 | [] => none
mutual
def Lm.eta1 : Lm → Lm
 | .mk k i xs => if k = 2 then (match Lm.etaAt (Lm.etas xs) with | some y => y | none => .mk k i (Lm.etas xs)) else .mk k i (Lm.etas xs)
def Lm.etas : List Lm → List Lm
 | [] => []
 | t :: ts => t.eta1 :: Lm.etas ts
end
theorem Lm.etas_eq : ∀ xs : List Lm, Lm.etas xs = xs.map Lm.eta1
 | [] => rfl
 | t :: ts => by rw [Lm.etas, Lm.etas_eq ts]; rfl
theorem Lm.eta1_eq (t : Lm) : t.eta1 = if t.kind = 2 then (match Lm.etaAt (t.subs.map Lm.eta1) with | some y => y | none => .mk t.kind t.idx (t.subs.map Lm.eta1)) else .mk t.kind t.idx (t.subs.map Lm.eta1) := by
 cases t
 rw [Lm.eta1, Lm.etas_eq]
 rfl
theorem Lm.etaAt_some {ys : List Lm} {y : Lm} (h : Lm.etaAt ys = some y) : ∃ b r f x q, ys = b :: r ∧ b.kind = 3 ∧ b.subs = f :: x :: q ∧ x.kind = 1 ∧ x.idx = 0 ∧ Lm.has 0 f = false ∧ y = Lm.mv (-1) 0 f := by
 unfold Lm.etaAt at h
 split at h
 ·rename_i b r
  split at h
  ·rename_i hb
   split at h
   ·rename_i f x q hs
    split at h
    ·rename_i hx
     cases h
     exact ⟨b, r, f, x, q, rfl, hb, hs, hx.1, hx.2.1, hx.2.2, rfl⟩
    ·cases h
   ·cases h
  ·cases h
 ·cases h
mutual
theorem Lm.eta1_all {c : Int} : ∀ t : Lm, t.wf → t.good c → t.eta1.wf ∧ t.eta1.good c ∧ t.eta1.size ≤ t.size
 | .mk k i xs, hw, hg => by
  obtain ⟨h1, h2, h3, h4⟩ := Lm.etas_all xs hw.2 hg.2.2.2
  have hrest : (Lm.mk k i (Lm.etas xs)).wf ∧ (Lm.mk k i (Lm.etas xs)).good c ∧ (Lm.mk k i (Lm.etas xs)).size ≤ (Lm.mk k i xs).size :=
   ⟨⟨by rw [h4]; exact hw.1, h1⟩, ⟨fun e => by rw [hg.1 e]; rfl, hg.2.1, hg.2.2.1, h2⟩, by rw [Lm.size, Lm.size]; omega⟩
  rw [Lm.eta1]
  split
  ·split
   ·rename_i y hy
    obtain ⟨b, r, f, x, q, e1, e2, e3, e4, e5, e6, rfl⟩ := Lm.etaAt_some hy
    have hb : b ∈ Lm.etas xs := by rw [e1]; simp
    have hf : f ∈ b.subs := by rw [e3]; simp
    have s1 := Lm.size_sub hf
    have s2 := Lm.size_mem hb
    refine ⟨Lm.wf_mv 0 f (Lm.wf_sub (Lm.wfs_iff.1 h1 b hb) hf), Lm.good_down 0 f (by decide) (Lm.good_sub (Lm.goods_iff.1 h2 b hb) hf) e6, ?_⟩
    rw [Lm.size_mv, Lm.size]
    omega
   ·exact hrest
  ·exact hrest
theorem Lm.etas_all {c : Int} : ∀ xs : List Lm, Lm.wfs xs → Lm.goods c xs → Lm.wfs (Lm.etas xs) ∧ Lm.goods c (Lm.etas xs) ∧ Lm.sizes (Lm.etas xs) ≤ Lm.sizes xs ∧ (Lm.etas xs).length = xs.length
 | [], _, _ => ⟨trivial, trivial, Nat.le_refl _, rfl⟩
 | t :: ts, hw, hg => by
  obtain ⟨a1, a2, a3⟩ := Lm.eta1_all t hw.1 hg.1
  obtain ⟨b1, b2, b3, b4⟩ := Lm.etas_all ts hw.2 hg.2
  refine ⟨⟨a1, b1⟩, ⟨a2, b2⟩, ?_, by simp [Lm.etas, b4]⟩
  rw [Lm.etas, Lm.sizes, Lm.sizes]
  omega
end
mutual
def Lm.known (m : Int) : Lm → Prop
 | .mk k i xs => (k = 5 → 0 ≤ i ∧ i < m) ∧ Lm.knowns m xs
def Lm.knowns (m : Int) : List Lm → Prop
 | [] => True
 | t :: ts => t.known m ∧ Lm.knowns m ts
end
mutual
def Lm.fill (ws : List Lm) : Lm → Lm
 | .mk k i xs => if k = 5 then ws.getD i.toNat Lm.nil else .mk k i (Lm.fills ws xs)
def Lm.fills (ws : List Lm) : List Lm → List Lm
 | [] => []
 | t :: ts => Lm.fill ws t :: Lm.fills ws ts
end
def Lm.v (i : Int) : Lm := .mk 1 i []
def Lm.l (t : Lm) : Lm := .mk 2 0 [t]
def Lm.a (f x : Lm) : Lm := .mk 3 0 [f, x]
def Lm.isOne (t : Lm) : Option Lm := match t.subs with
 | f :: x :: _ => if t.kind = 3 ∧ f.same (Lm.v 1) = true then some x else none
 | _ => none
def Lm.chain : Nat → Lm → Int × Lm
 | 0, t => (0, t)
 | n + 1, t => match t.isOne with
  | some x => ((Lm.chain n x).1 + 1, (Lm.chain n x).2)
  | none => (0, t)
def Lm.ch (t : Lm) : Int × Lm := Lm.chain t.size t
def Lm.val (t : Lm) : Int := if t.same (Lm.l (Lm.v 0)) = true then 1 else
 if t.kind = 2 then (match t.subs with
  | g :: _ => if g.kind = 2 then (match g.subs with
   | b :: _ => if b.ch.2.same (Lm.v 0) = true then b.ch.1 else -1
   | [] => -1) else -1
  | [] => -1) else -1

set_option linter.unusedSimpArgs false
set_option maxHeartbeats 400000
theorem Lm.same_eq (a b : Lm) : a.same b = (decide (a.kind = b.kind) && decide (a.idx = b.idx) && Lm.sames a.subs b.subs) := by cases a; cases b; rfl
theorem Lm.sames_len : ∀ {xs ys : List Lm}, ¬ xs.length = ys.length → Lm.sames xs ys = false
 | [], [], h => absurd rfl h
 | [], _ :: _, _ => rfl
 | _ :: _, [], _ => rfl
 | x :: xs, y :: ys, h => by
  rw [Lm.sames, Lm.sames_len (fun e => h (by simp [e]))]
  simp
theorem Lm.sames_append : ∀ {xs ys us vs : List Lm}, xs.length = ys.length → Lm.sames (xs ++ us) (ys ++ vs) = (Lm.sames xs ys && Lm.sames us vs)
 | [], [], us, vs, _ => by simp [Lm.sames]
 | [], _ :: _, _, _, h => by simp at h
 | _ :: _, [], _, _, h => by simp at h
 | x :: xs, y :: ys, us, vs, h => by
  simp only [List.cons_append, Lm.sames, Lm.sames_append (show xs.length = ys.length by simpa using h), Bool.and_assoc]
theorem Lm.sames_take {xs ys : List Lm} {k : Nat} {x y : Lm} (hl : xs.length = ys.length) (hx : xs[k]? = some x) (hy : ys[k]? = some y) (h : Lm.sames (xs.take k) (ys.take k) = true) : Lm.sames (xs.take (k + 1)) (ys.take (k + 1)) = x.same y := by
 rw [A9 hx, A9 hy, Lm.sames_append (by simp [hl]), h]
 simp [Lm.sames]
theorem Lm.sames_no {xs ys : List Lm} {k : Nat} (hl : xs.length = ys.length) (h : Lm.sames (xs.take k) (ys.take k) = false) : Lm.sames xs ys = false := by
 have := Lm.sames_append (xs := xs.take k) (ys := ys.take k) (us := xs.drop k) (vs := ys.drop k) (by simp [hl])
 rw [List.take_append_drop, List.take_append_drop, h] at this
 simpa using this
theorem Mk (a b : Lm) : Ak Tryd.prog 12 [aLm a, aLm b] (An (a.same b)) := by
 induction h : SizeOf.sizeOf a using Nat.strongRecOn generalizing a b with
 | _ N ih =>
 subst h
 rw [Lm.same_eq]
 refine Hz.ac fun C hC => ?_
 unfold En
 refine IWP.learn 0 (by omega) fun hkn => ?_
 have hkn := (IX hkn).2.2
 by_cases h1 : a.kind = b.kind
 case neg =>
  repeat' with_reducible first | refine W ?_ | refine Z0 ?_ | ((first | refine Wo fun K hK => ?_ | refine Wp ?_ | refine Wq ?_ | refine Wr ?_); (try simp only [go_sem, fN, seval, eT, iR, h1, dT, dF, nL]); (repeat refine Ai ?_); (try (refine hK _ ?_; clear hK K)); try refine iC ?_)
  simp only [go_sem, fN, seval, Ap, AS.result, AG, AH, AY, h1]
  try simp
 case pos =>
 by_cases h2 : a.idx = b.idx
 case neg =>
  repeat' with_reducible first | refine W ?_ | refine Z0 ?_ | ((first | refine Wo fun K hK => ?_ | refine Wp ?_ | refine Wq ?_ | refine Wr ?_); (try simp only [go_sem, fN, seval, eT, iR, h1, h2, dT, dF, nL]); (repeat refine Ai ?_); (try (refine hK _ ?_; clear hK K)); try refine iC ?_)
  simp only [go_sem, fN, seval, Ap, AS.result, AG, AH, AY, h1, h2]
  try simp
 case pos =>
 by_cases h3 : a.subs.length = b.subs.length
 case neg =>
  have h3' : ¬ (a.subs.length : Int) = b.subs.length := by omega
  rw [Lm.sames_len h3]
  repeat' with_reducible first | refine W ?_ | refine Z0 ?_ | ((first | refine Wo fun K hK => ?_ | refine Wp ?_ | refine Wq ?_ | refine Wr ?_); (try simp only [go_sem, fN, seval, eT, iR, h1, h2, h3', dT, dF, nL]); (repeat refine Ai ?_); (try (refine hK _ ?_; clear hK K)); try refine iC ?_)
  simp only [go_sem, fN, seval, Ap, AS.result, AG, AH, AY, h1, h2, h3']
  try simp
 case pos =>
 have h3' : (a.subs.length : Int) = b.subs.length := by omega
 repeat' with_reducible first | refine W ?_ | refine Z0 ?_ | ((first | refine Wo fun K hK => ?_ | refine Wp ?_ | refine Wq ?_ | refine Wr ?_); (try simp only [go_sem, fN, seval, eT, iR, h1, h2, h3', dT, dF, nL]); (repeat refine Ai ?_); (try (refine hK _ ?_; clear hK K)); try refine iC ?_)
 refine IWP.loop (fun n s => ∃ k, k ≤ a.subs.length ∧ n = a.subs.length - k ∧ Lm.sames (a.subs.take k) (b.subs.take k) = true ∧ s.env 2 = .one (.ptr 2 1 0 0) ∧ s.env 3 = .one (.ptr 3 1 0 0) ∧ s.S 2 = some (.box 24 [.st (.int .i64 b.kind), .st (.int .i64 b.idx), .st (.list (a.subs.map Af))]) ∧ s.S 3 = some (.box 24 [.st (.int .i64 b.kind), .st (.int .i64 b.idx), .st (.list (b.subs.map Af))]) ∧ s.env 5 = AQ k) a.subs.length ⟨0, Nat.zero_le _, rfl, rfl, rfl, rfl, by simp only [h1, h2]; rfl, rfl, rfl⟩ ?_
 rintro n ⟨env, S⟩ ⟨k, hk', rfl, hp, e2, e3, s2, s3, e5⟩
 simp only at e2 e3 s2 s3 e5
 by_cases hlt : (k : Int) < a.subs.length
 ·obtain ⟨x, hx⟩ := A1 (show k < a.subs.length by omega)
  obtain ⟨y, hy⟩ := A1 (show k < b.subs.length by omega)
  have hlt2 : (k : Int) < b.subs.length := by omega
  repeat' with_reducible first | refine W ?_ | refine Z0 ?_ | ((first | refine Wo fun K hK => ?_ | refine Wp ?_ | refine Wq ?_ | refine Wr ?_); (try simp only [go_sem, fN, seval, eT, iR, e2, e3, s2, s3, e5, hx, hy, hlt, hlt2, dT, dF, nL]); (repeat refine Ai ?_); (try (refine hK _ ?_; clear hK K)); try refine iC ?_)
  refine ⟨_, ih _ (Lm.lt_of_sub (Ac hx)) x y rfl, ?_⟩
  by_cases hr : x.same y = true
  ·repeat' with_reducible first | refine W ?_ | refine Z0 ?_ | ((first | refine Wo fun K hK => ?_ | refine Wp ?_ | refine Wq ?_ | refine Wr ?_); (try simp only [go_sem, fN, seval, eT, iR, e2, e3, s2, s3, e5, hr, dT, dF, nL]); (repeat refine Ai ?_); (try (refine hK _ ?_; clear hK K)); try refine iC ?_)
   refine AO ⟨a.subs.length - (k + 1), by omega, k + 1, by omega, rfl, ?_⟩
   simp only [go_sem, fN, seval, eT, iR, e2, e3, s2, s3, e5]
   exact ⟨by rw [Lm.sames_take h3 hx hy hp, hr], by congr 3⟩
  ·have hr' : x.same y = false := by simpa using hr
   repeat' with_reducible first | refine W ?_ | refine Z0 ?_ | ((first | refine Wo fun K hK => ?_ | refine Wp ?_ | refine Wq ?_ | refine Wr ?_); (try simp only [go_sem, fN, seval, eT, iR, e2, e3, s2, s3, e5, hr', dT, dF, nL]); (repeat refine Ai ?_); (try (refine hK _ ?_; clear hK K)); try refine iC ?_)
   simp only [go_sem, fN, seval, Ap, AS.result, AG, AH, AY]
   rw [Lm.sames_no (k := k + 1) h3 (by rw [Lm.sames_take h3 hx hy hp, hr'])]
   simp
 ·repeat' with_reducible first | refine W ?_ | refine Z0 ?_ | ((first | refine Wo fun K hK => ?_ | refine Wp ?_ | refine Wq ?_ | refine Wr ?_); (try simp only [go_sem, fN, seval, eT, iR, e2, e3, s2, s3, e5, hlt, dT, dF, nL]); (repeat refine Ai ?_); (try (refine hK _ ?_; clear hK K)); try refine iC ?_)
  simp only [go_sem, fN, seval, Ap, AS.result, AG, AH, AY]
  rw [List.take_of_length_le (by omega), List.take_of_length_le (by omega)] at hp
  rw [hp]
  simp [h1, h2]
theorem Ho (xs ys : List Lm) (hS : ∀ x ∈ xs, ∀ y, Ak Tryd.prog 54 [aLm x, aLm y] (An (x.same y))) :
  Ak Tryd.prog 70 [BI xs, BI ys, .one (.fn 54 [])] (An (Lm.sames xs ys)) := by
 refine Al.ac fun C hC => ?_
 unfold AW
 refine IWP.learn 0 (by omega) fun hkn => ?_
 have hkn := Cb hkn
 rw [List.length_map] at hkn
 by_cases h3 : xs.length = ys.length
 case neg =>
  have h3' : ¬ (xs.length : Int) = ys.length := by omega
  rw [Lm.sames_len h3]
  repeat' with_reducible first | refine W ?_ | refine Z0 ?_ | ((first | refine Wo fun K hK => ?_ | refine Wp ?_ | refine Wq ?_ | refine Wr ?_); (try simp only [go_sem, fN, seval, eT, iR, h3', dT, dF, nL]); (repeat refine Ai ?_); (try (refine hK _ ?_; clear hK K)); try refine iC ?_)
  simp only [go_sem, fN, seval, Ap, AS.result, AG, AH, AY]
 case pos =>
 have h3' : (xs.length : Int) = ys.length := by omega
 repeat' with_reducible first | refine W ?_ | refine Z0 ?_ | ((first | refine Wo fun K hK => ?_ | refine Wp ?_ | refine Wq ?_ | refine Wr ?_); (try simp only [go_sem, fN, seval, eT, iR, h3', dT, dF, nL]); (repeat refine Ai ?_); (try (refine hK _ ?_; clear hK K)); try refine iC ?_)
 refine IWP.loopD [8, 9] (fun n s => ∃ k, k ≤ xs.length ∧ n = xs.length - k ∧ Lm.sames (xs.take k) (ys.take k) = true ∧ s.env 1 = BI ys ∧ s.env 2 = .one (.fn 54 []) ∧ s.env 15 = BI xs ∧ s.env 16 = AQ xs.length ∧ s.env 17 = AQ k ∧ s.S 8 = none ∧ s.S 9 = none) xs.length ⟨0, Nat.zero_le _, rfl, rfl, rfl, rfl, rfl, by simp only [go_sem, fN, seval, eT, iR, h3'], rfl, rfl, rfl⟩ ?_
 rintro n ⟨env, S⟩ ⟨k, hk', rfl, hp, e1, e2, e15, e16, e17, s8, s9⟩
 simp only at e1 e2 e15 e16 e17 s8 s9
 by_cases hlt : (k : Int) < xs.length
 ·obtain ⟨x, hx⟩ := A1 (show k < xs.length by omega)
  obtain ⟨y, hy⟩ := A1 (show k < ys.length by omega)
  repeat' with_reducible first | refine W ?_ | refine Z0 ?_ | ((first | refine Wo fun K hK => ?_ | refine Wp ?_ | refine Wq ?_ | refine Wr ?_); (try simp only [go_sem, fN, seval, eT, iR, e1, e2, e15, e16, e17, s8, s9, hx, hy, hlt, dT, dF, nL]); (repeat refine Ai ?_); (try (refine hK _ ?_; clear hK K)); try refine iC ?_)
  refine ⟨by kernel_rfl, _, _, (hS x (Ac hx) y).toS rfl, ?_⟩
  by_cases hr : x.same y = true
  ·repeat' with_reducible first | refine W ?_ | refine Z0 ?_ | ((first | refine Wo fun K hK => ?_ | refine Wp ?_ | refine Wq ?_ | refine Wr ?_); (try simp only [go_sem, fN, seval, eT, iR, e1, e2, e15, e16, e17, s8, s9, hr, dT, dF, nL]); (repeat refine Ai ?_); (try (refine hK _ ?_; clear hK K)); try refine iC ?_)
   refine AO ⟨xs.length - (k + 1), by omega, k + 1, by omega, rfl, ?_⟩
   simp only [go_sem, fN, seval, AS.drop, AJ, AC.clears, AC.clear, AC.highs, AC.high, Bool.not_false, Bool.true_and, Bool.and_self, AV.purge, AV.purges, AC.purge, AF.purge, List.contains_cons, List.contains_nil, Nat.reduceBEq, Bool.or_self, Bool.or_false, Bool.false_or, Bool.or_true, eT, iR, e1, e2, e15, e16, e17, s8, s9]
   exact ⟨by rw [Lm.sames_take h3 hx hy hp, hr], by congr 3⟩
  ·have hr' : x.same y = false := by simpa using hr
   repeat' with_reducible first | refine W ?_ | refine Z0 ?_ | ((first | refine Wo fun K hK => ?_ | refine Wp ?_ | refine Wq ?_ | refine Wr ?_); (try simp only [go_sem, fN, seval, eT, iR, e1, e2, e15, e16, e17, s8, s9, hr', dT, dF, nL]); (repeat refine Ai ?_); (try (refine hK _ ?_; clear hK K)); try refine iC ?_)
   simp only [go_sem, fN, seval, Ap, AS.result, AG, AH, AY]
   rw [Lm.sames_no (k := k + 1) h3 (by rw [Lm.sames_take h3 hx hy hp, hr'])]
 ·repeat' with_reducible first | refine W ?_ | refine Z0 ?_ | ((first | refine Wo fun K hK => ?_ | refine Wp ?_ | refine Wq ?_ | refine Wr ?_); (try simp only [go_sem, fN, seval, eT, iR, e1, e2, e15, e16, e17, s8, s9, hlt, dT, dF, nL]); (repeat refine Ai ?_); (try (refine hK _ ?_; clear hK K)); try refine iC ?_)
  simp only [go_sem, fN, seval, Ap, AS.result, AG, AH, AY]
  rw [List.take_of_length_le (by omega), List.take_of_length_le (by omega)] at hp
  rw [hp]
theorem NA (a b : Lm) : Ak Tryd.prog 54 [aLm a, aLm b] (An (a.same b)) := by
 induction h : SizeOf.sizeOf a using Nat.strongRecOn generalizing a b with
 | _ N ih =>
 subst h
 rw [Lm.same_eq]
 refine GN.ac fun C hC => ?_
 unfold D0
 by_cases h1 : a.kind = b.kind
 case neg =>
  repeat' with_reducible first | refine W ?_ | refine Z0 ?_ | ((first | refine Wo fun K hK => ?_ | refine Wp ?_ | refine Wq ?_ | refine Wr ?_); (try simp only [go_sem, fN, seval, eT, iR, h1, dT, dF, nL]); (repeat refine Ai ?_); (try (refine hK _ ?_; clear hK K)); try refine iC ?_)
  simp only [go_sem, fN, seval, Ap, AS.result, AG, AH, AY, h1]
  try simp
 case pos =>
 by_cases h2 : a.idx = b.idx
 case neg =>
  repeat' with_reducible first | refine W ?_ | refine Z0 ?_ | ((first | refine Wo fun K hK => ?_ | refine Wp ?_ | refine Wq ?_ | refine Wr ?_); (try simp only [go_sem, fN, seval, eT, iR, h1, h2, dT, dF, nL]); (repeat refine Ai ?_); (try (refine hK _ ?_; clear hK K)); try refine iC ?_)
  simp only [go_sem, fN, seval, Ap, AS.result, AG, AH, AY, h1, h2]
  try simp
 case pos =>
 repeat' (first | (with_reducible first | refine W ?_ | refine Z0 ?_ | ((first | refine Wo fun K hK => ?_ | refine Wp ?_ | refine Wq ?_ | refine Wr ?_); (try simp only [go_sem, fN, seval, eT, iR, h1, h2, dT, dF, nL]); (repeat refine Ai ?_); (try (refine hK _ ?_; clear hK K)); try refine iC ?_)) | refine Cg _ (Ho a.subs b.subs fun x hx y => ih _ (Lm.lt_of_sub hx) x y rfl) ?_)
 simp only [go_sem, fN, seval, Ap, AS.result, AG, AH, AY]
 simp [h1, h2]
theorem Nl (f x : Lm) : Ak Tryd.prog 57 [aLm f, aLm x] (aLm (Lm.a f x)) := by
 refine JK.ac fun C hC => ?_
 unfold FY
 repeat' with_reducible first | refine W ?_ | refine Z0 ?_ | ((first | refine Wo fun K hK => ?_ | refine Wp ?_ | refine Wq ?_ | refine Wr ?_); (try simp only [go_sem, fN, seval, eT, iR, dT, dF, nL]); (repeat refine Ai ?_); (try (refine hK _ ?_; clear hK K)); try refine iC ?_)
 simp only [go_sem, fN, seval, Ap, AS.result, AG, AH, AY]
 simp [Lm.a, Lm.kind_mk, Lm.idx_mk, Lm.subs_mk, AD]
theorem FC (f x : Lm) : Ak Tryd.prog 5 [aLm f, aLm x] (aLm (Lm.a f x)) := by
 refine Mo.ac fun C hC => ?_
 unfold ID
 repeat' with_reducible first | refine W ?_ | refine Z0 ?_ | ((first | refine Wo fun K hK => ?_ | refine Wp ?_ | refine Wq ?_ | refine Wr ?_); (try simp only [go_sem, fN, seval, eT, iR, dT, dF, nL]); (repeat refine Ai ?_); (try (refine hK _ ?_; clear hK K)); try refine iC ?_)
 simp only [go_sem, fN, seval, Ap, AS.result, AG, AH, AY]
 simp [Lm.a, Lm.kind_mk, Lm.idx_mk, Lm.subs_mk, AD]
theorem N7 (t : Lm) : Ak Tryd.prog 73 [aLm t] (aLm (Lm.l t)) := by
 refine IM.ac fun C hC => ?_
 unfold FV
 repeat' with_reducible first | refine W ?_ | refine Z0 ?_ | ((first | refine Wo fun K hK => ?_ | refine Wp ?_ | refine Wq ?_ | refine Wr ?_); (try simp only [go_sem, fN, seval, eT, iR, dT, dF, nL]); (repeat refine Ai ?_); (try (refine hK _ ?_; clear hK K)); try refine iC ?_)
 simp only [go_sem, fN, seval, Ap, AS.result, AG, AH, AY]
 simp [Lm.l, Lm.kind_mk, Lm.idx_mk, Lm.subs_mk, AD]
theorem Cu (t : Lm) : Ak Tryd.prog 8 [aLm t] (aLm (Lm.l t)) := by
 refine L4.ac fun C hC => ?_
 unfold H6
 repeat' with_reducible first | refine W ?_ | refine Z0 ?_ | ((first | refine Wo fun K hK => ?_ | refine Wp ?_ | refine Wq ?_ | refine Wr ?_); (try simp only [go_sem, fN, seval, eT, iR, dT, dF, nL]); (repeat refine Ai ?_); (try (refine hK _ ?_; clear hK K)); try refine iC ?_)
 simp only [go_sem, fN, seval, Ap, AS.result, AG, AH, AY]
 simp [Lm.l, Lm.kind_mk, Lm.idx_mk, Lm.subs_mk, AD]



set_option maxRecDepth 100000

theorem L2 (t : Lm) (d : Int) (hd : 0 ≤ d) (hz : d + t.size ≤ 1000000000) : Ak Tryd.prog 39 [aLm t, AQ d] (An (Lm.has d t)) := by
 induction h : SizeOf.sizeOf t using Nat.strongRecOn generalizing t d with
 | _ N ih =>
 subst h
 have hs := Lm.size_eq t
 have hlen := Lm.length_le t.subs
 have hu := IA t.kind d
 rw [Lm.has_eq]
 by_cases k1 : t.kind = 1
 ·refine EI.ac fun C hC => ?_
  unfold Ct
  repeat' with_reducible first | refine W ?_ | refine Z0 ?_ | ((first | refine Wo fun K hK => ?_ | refine Wp ?_ | refine Wq ?_ | refine Wr ?_); (try simp only [go_sem, fN, seval, eT, iR, k1, dT, dF, nL]); (repeat refine Ai ?_); (try (refine hK _ ?_; clear hK K)); try refine iC ?_)
  simp only [go_sem, fN, seval, Ap, AS.result, AG, AH, AY, k1]
 have hcase : t.kind = 2 ∨ ¬ t.kind = 2 := by omega
 rw [if_neg k1]
 rcases hcase with k2 | k2
 all_goals
  refine EI.ac fun C hC => ?_
  unfold Ct
  repeat' with_reducible first | refine W ?_ | refine Z0 ?_ | ((first | refine Wo fun K hK => ?_ | refine Wp ?_ | refine Wq ?_ | refine Wr ?_); (try simp only [go_sem, fN, seval, eT, iR, k1, k2, dT, dF, nL]); (repeat refine Ai ?_); (try (refine hK _ ?_; clear hK K)); try refine iC ?_)
  refine IWP.loopD [6] (fun n s => ∃ k, k ≤ t.subs.length ∧ n = t.subs.length - k ∧ Lm.hass (A2 t.kind d) (t.subs.take k) = false ∧ s.env 1 = AQ (A2 t.kind d) ∧ s.env 20 = BI t.subs ∧ s.env 21 = AQ t.subs.length ∧ s.env 22 = AQ k ∧ s.S 6 = none) t.subs.length ⟨0, Nat.zero_le _, rfl, rfl, by simp only [k1, k2, A2, Int.reduceEq, ↓reduceIte]; rfl, rfl, rfl, rfl, rfl⟩ ?_
  rintro n ⟨env, S⟩ ⟨k, hk', rfl, hp, e1, e20, e21, e22, s6⟩
  simp only at e1 e20 e21 e22 s6
  by_cases hlt : (k : Int) < t.subs.length
  ·obtain ⟨a, ha⟩ := A1 (show k < t.subs.length by omega)
   have z3 := Lm.size_mem (Ac ha)
   repeat' with_reducible first | refine W ?_ | refine Z0 ?_ | ((first | refine Wo fun K hK => ?_ | refine Wp ?_ | refine Wq ?_ | refine Wr ?_); (try simp only [go_sem, fN, seval, eT, iR, e1, e20, e21, e22, s6, ha, hlt, dT, dF, nL]); (repeat refine Ai ?_); (try (refine hK _ ?_; clear hK K)); try refine iC ?_)
   refine ⟨_, ih _ (Lm.lt_of_sub (Ac ha)) a (A2 t.kind d) (by omega) (by omega) rfl, ?_⟩
   by_cases hr : Lm.has (A2 t.kind d) a = true
   ·repeat' with_reducible first | refine W ?_ | refine Z0 ?_ | ((first | refine Wo fun K hK => ?_ | refine Wp ?_ | refine Wq ?_ | refine Wr ?_); (try simp only [go_sem, fN, seval, eT, iR, e1, e20, e21, e22, s6, hr, dT, dF, nL]); (repeat refine Ai ?_); (try (refine hK _ ?_; clear hK K)); try refine iC ?_)
    simp only [go_sem, fN, seval, Ap, AS.result, AG, AH, AY]
    try simp only [k2] at hp hr ⊢
    rw [Lm.hass_yes (k := k + 1) (by rw [Lm.hass_take ha hp, hr])]
   ·have hr' : Lm.has (A2 t.kind d) a = false := by simpa using hr
    repeat' with_reducible first | refine W ?_ | refine Z0 ?_ | ((first | refine Wo fun K hK => ?_ | refine Wp ?_ | refine Wq ?_ | refine Wr ?_); (try simp only [go_sem, fN, seval, eT, iR, e1, e20, e21, e22, s6, hr', dT, dF, nL]); (repeat refine Ai ?_); (try (refine hK _ ?_; clear hK K)); try refine iC ?_)
    refine AO ⟨t.subs.length - (k + 1), by omega, k + 1, by omega, rfl, ?_⟩
    simp only [go_sem, fN, seval, AS.drop, AJ, AC.clears, AC.clear, AC.highs, AC.high, Bool.not_false, Bool.true_and, Bool.and_self, AV.purge, AV.purges, AC.purge, AF.purge, List.contains_cons, List.contains_nil, Nat.reduceBEq, Bool.or_self, Bool.or_false, Bool.false_or, Bool.or_true, eT, iR, e1, e20, e21, e22, s6]
    exact ⟨by rw [Lm.hass_take ha hp, hr'], by congr 3⟩
  ·repeat' with_reducible first | refine W ?_ | refine Z0 ?_ | ((first | refine Wo fun K hK => ?_ | refine Wp ?_ | refine Wq ?_ | refine Wr ?_); (try simp only [go_sem, fN, seval, eT, iR, e1, e20, e21, e22, s6, hlt, dT, dF, nL]); (repeat refine Ai ?_); (try (refine hK _ ?_; clear hK K)); try refine iC ?_)
   simp only [go_sem, fN, seval, Ap, AS.result, AG, AH, AY]
   rw [List.take_of_length_le (by omega)] at hp
   try simp only [k2] at hp ⊢
   rw [hp]
theorem Lm.etaAt_one {b : Lm} (hw : b.wf) : (∃ f x, b.kind = 3 ∧ b.subs = [f, x] ∧ x.kind = 1 ∧ x.idx = 0 ∧ Lm.has 0 f = false ∧ Lm.etaAt [b] = some (Lm.mv (-1) 0 f)) ∨
  (Lm.etaAt [b] = none ∧ (b.kind = 3 → ∃ f x, b.subs = [f, x] ∧ (x.kind = 1 → x.idx = 0 → Lm.has 0 f = true))) := by
 by_cases hk : b.kind = 3
 ·obtain ⟨f, x, hfx⟩ := Lm.subs2 hw hk
  by_cases hc : x.kind = 1 ∧ x.idx = 0 ∧ Lm.has 0 f = false
  ·exact Or.inl ⟨f, x, hk, hfx, hc.1, hc.2.1, hc.2.2, by simp [Lm.etaAt, hk, hfx, hc]⟩
  ·refine Or.inr ⟨?_, fun _ => ⟨f, x, hfx, fun h1 h2 => ?_⟩⟩
   ·simp only [Lm.etaAt, hk, hfx, if_true]
    rw [if_neg hc]
   ·cases hh : Lm.has 0 f with
    | true => rfl
    | false => exact absurd ⟨h1, h2, hh⟩ hc
 ·exact Or.inr ⟨by simp [Lm.etaAt, hk], fun e => absurd e hk⟩
set_option maxRecDepth 10000 in
theorem LZ (t : Lm) (hw : t.wf) (hg : t.good 1000000000) (hz : t.size ≤ 1000000000) : Ak Tryd.prog 20 [aLm t] (aLm t.eta1) := by
 induction h : SizeOf.sizeOf t using Nat.strongRecOn generalizing t with
 | _ N ih =>
 subst h
 have hs := Lm.size_eq t
 have hlen := Lm.length_le t.subs
 rw [Lm.eta1_eq]
 refine Fi.ac fun C hC => ?_
 unfold Dd
 repeat' with_reducible first | refine W ?_ | refine Z0 ?_ | ((first | refine Wo fun K hK => ?_ | refine Wp ?_ | refine Wq ?_ | refine Wr ?_); (try simp only [go_sem, fN, seval, eT, iR, dT, dF, nL]); (repeat refine Ai ?_); (try (refine hK _ ?_; clear hK K)); try refine iC ?_)
 refine IWP.ghost (Ar.ownC 3 2 21 24 3 (xs := ([] : List Lm).map Af) rfl rfl rfl C_) ?_
 refine IWP.loopD [5] (fun n s => ∃ k, k ≤ t.subs.length ∧ n = t.subs.length - k ∧ s.env 1 = .one (.ptr 1 1 0 0) ∧ s.env 2 = .one (.ptr 2 1 0 0) ∧ s.env 3 = .one (.ptr 3 1 0 0) ∧ s.S 1 = some (.box 24 [.st (.int .i64 t.kind), .st (.int .i64 t.idx), .st (.list (t.subs.map Af))]) ∧ s.S 2 = some (.box 24 [.st (.int .i64 0), .st (.int .i64 0), .full []])
   ∧ s.S 3 = some (.box 24 [.st (.int .i64 t.kind), .st (.int .i64 t.idx), .row 21 k]) ∧ s.S 21 = some (.arow 24 3 (((t.subs.take k).map Lm.eta1).map Af)) ∧ s.env 13 = BI t.subs ∧ s.env 14 = AQ t.subs.length ∧ s.env 15 = AQ k ∧ s.S 5 = none ∧ s.S 6 = none) t.subs.length
   ⟨0, Nat.zero_le _, rfl, rfl, rfl, rfl, rfl, rfl, rfl, rfl, rfl, rfl, rfl, rfl, rfl⟩ ?_
 rintro n ⟨env, S⟩ ⟨k, hk', rfl, e1, e2, e3, s1, s2, s3, s21, e13, e14, e15, s5, s6⟩
 simp only at e1 e2 e3 s1 s2 s3 s21 e13 e14 e15 s5 s6
 have hlk : (t.subs.take k).length = k := by rw [List.length_take]; omega
 by_cases hlt : (k : Int) < t.subs.length
 ·obtain ⟨a, ha⟩ := A1 (show k < t.subs.length by omega)
  have z3 := Lm.size_sub (Ac ha)
  repeat' (first | (with_reducible first | refine W ?_ | refine Z0 ?_ | ((first | refine Wo fun K hK => ?_ | refine Wp ?_ | refine Wq ?_ | refine Wr ?_); (try simp only [go_sem, fN, seval, eT, iR, e1, e2, e3, s1, s2, s3, s21, e13, e14, e15, s5, s6, ha, hlt, hlk, dT, dF, nL]); (repeat refine Ai ?_); (try (refine hK _ ?_; clear hK K)); try refine iC ?_)) | refine Cg _ (ih _ (Lm.lt_of_sub (Ac ha)) a (Lm.wf_sub hw (Ac ha)) (Lm.good_sub hg (Ac ha)) (by omega) rfl) ?_)
  refine AO ⟨t.subs.length - (k + 1), by omega, k + 1, by omega, rfl, ?_⟩
  simp only [go_sem, fN, seval, AS.drop, AJ, AC.clears, AC.clear, AC.highs, AC.high, Bool.not_false, Bool.true_and, Bool.and_self, AV.purge, AV.purges, AC.purge, AF.purge, List.contains_cons, List.contains_nil, Nat.reduceBEq, Bool.or_self, Bool.or_false, Bool.false_or, Bool.or_true, eT, iR, e1, e2, e3, s1, s2, s3, s21, e13, e14, e15, s5, s6]
  exact ⟨by rw [A9 ha]; simp [AD], by congr 3⟩
 ·have hall : t.subs.take k = t.subs := List.take_of_length_le (by omega)
  have hkl : k = t.subs.length := by omega
  rw [hall] at s21 hlk
  by_cases k2 : t.kind = 2
  ·obtain ⟨a, ha⟩ := Lm.subs1 hw k2
   have ham : a ∈ t.subs := by rw [ha]; simp
   have z3 := Lm.size_sub ham
   obtain ⟨w1, w2, w3⟩ := Lm.eta1_all (c := 1000000000) a (Lm.wf_sub hw ham) (Lm.good_sub hg ham)
   generalize hb : a.eta1 = b at *
   have hk1 : k = 1 := by rw [hkl, ha]; rfl
   subst hk1
   replace hlt : ¬ (1 : Int) < t.subs.length := by omega
   rw [ha] at s21
   simp only [List.map_cons, List.map_nil, hb, AD b] at s21
   rw [if_pos k2, ha]
   simp only [List.map_cons, List.map_nil, hb]
   rcases Lm.etaAt_one w1 with ⟨f, x, b1, b2, b3, b4, b5, b6⟩ | ⟨b6, b7⟩
   ·have hf : f ∈ b.subs := by rw [b2]; simp
    have s1' := Lm.size_sub hf
    rw [b6]
    repeat' (first | (with_reducible first | refine W ?_ | refine Z0 ?_ | ((first | refine Wo fun K hK => ?_ | refine Wp ?_ | refine Wq ?_ | refine Wr ?_); (try simp only [go_sem, fN, seval, eT, iR, e1, e2, e3, s1, s2, s3, s21, e13, e14, e15, s5, s6, hlt, k2, b1, b2, b3, b4, b5, dT, dF, nL]); (repeat refine Ai ?_); (try (refine hK _ ?_; clear hK K)); try refine iC ?_)) | refine Cg _ (L2 f 0 (by decide) (by omega)) ?_ | refine Cg _ (He f (-1) 0 (Lm.good_sub w2 hf) (by decide) (by decide) (by omega)) ?_)
    simp only [go_sem, fN, seval, Ap, AS.result, AG, AH, AY, e2]
   ·rw [b6]
    by_cases b1 : b.kind = 3
    ·obtain ⟨f, x, b2, b8⟩ := b7 b1
     have hf : f ∈ b.subs := by rw [b2]; simp
     have s1' := Lm.size_sub hf
     by_cases b3 : x.kind = 1
     ·by_cases b4 : x.idx = 0
      ·have b5 := b8 b3 b4
       repeat' (first | (with_reducible first | refine W ?_ | refine Z0 ?_ | ((first | refine Wo fun K hK => ?_ | refine Wp ?_ | refine Wq ?_ | refine Wr ?_); (try simp only [go_sem, fN, seval, eT, iR, e1, e2, e3, s1, s2, s3, s21, e13, e14, e15, s5, s6, hlt, k2, b1, b2, b3, b4, b5, dT, dF, nL]); (repeat refine Ai ?_); (try (refine hK _ ?_; clear hK K)); try refine iC ?_)) | refine Cg _ (L2 f 0 (by decide) (by omega)) ?_)
       simp only [go_sem, fN, seval, Ap, AS.result, AG, AH, AY, e2, s21]
       try simp [k2, b1, b2, AD, Lm.kind_mk, Lm.idx_mk, Lm.subs_mk]
      ·repeat' with_reducible first | refine W ?_ | refine Z0 ?_ | ((first | refine Wo fun K hK => ?_ | refine Wp ?_ | refine Wq ?_ | refine Wr ?_); (try simp only [go_sem, fN, seval, eT, iR, e1, e2, e3, s1, s2, s3, s21, e13, e14, e15, s5, s6, hlt, k2, b1, b2, b3, b4, dT, dF, nL]); (repeat refine Ai ?_); (try (refine hK _ ?_; clear hK K)); try refine iC ?_)
       simp only [go_sem, fN, seval, Ap, AS.result, AG, AH, AY, e2, s21]
       try simp [k2, b1, b2, AD, Lm.kind_mk, Lm.idx_mk, Lm.subs_mk]
     ·repeat' with_reducible first | refine W ?_ | refine Z0 ?_ | ((first | refine Wo fun K hK => ?_ | refine Wp ?_ | refine Wq ?_ | refine Wr ?_); (try simp only [go_sem, fN, seval, eT, iR, e1, e2, e3, s1, s2, s3, s21, e13, e14, e15, s5, s6, hlt, k2, b1, b2, b3, dT, dF, nL]); (repeat refine Ai ?_); (try (refine hK _ ?_; clear hK K)); try refine iC ?_)
      simp only [go_sem, fN, seval, Ap, AS.result, AG, AH, AY, e2, s21]
      try simp [k2, b1, b2, AD, Lm.kind_mk, Lm.idx_mk, Lm.subs_mk]
    ·repeat' with_reducible first | refine W ?_ | refine Z0 ?_ | ((first | refine Wo fun K hK => ?_ | refine Wp ?_ | refine Wq ?_ | refine Wr ?_); (try simp only [go_sem, fN, seval, eT, iR, e1, e2, e3, s1, s2, s3, s21, e13, e14, e15, s5, s6, hlt, k2, b1, dT, dF, nL]); (repeat refine Ai ?_); (try (refine hK _ ?_; clear hK K)); try refine iC ?_)
     simp only [go_sem, fN, seval, Ap, AS.result, AG, AH, AY, e2, s21]
     try simp [k2, AD, Lm.kind_mk, Lm.idx_mk, Lm.subs_mk]
  ·rw [if_neg k2]
   repeat' with_reducible first | refine W ?_ | refine Z0 ?_ | ((first | refine Wo fun K hK => ?_ | refine Wp ?_ | refine Wq ?_ | refine Wr ?_); (try simp only [go_sem, fN, seval, eT, iR, e1, e2, e3, s1, s2, s3, s21, e13, e14, e15, s5, s6, hlt, k2, dT, dF, nL]); (repeat refine Ai ?_); (try (refine hK _ ?_; clear hK K)); try refine iC ?_)
   simp only [go_sem, fN, seval, Ap, AS.result, AG, AH, AY, e2, s2, s3, s21, hkl]
   try simp [Lm.kind_mk, Lm.idx_mk, Lm.subs_mk]


def I3 : IR :=
 (.seq (.ops [.i 2 (.alloc 24 [.st (.int .i64 0), .st (.int .i64 0), .full []])]) (.seq (.ops [.m 3 0, .i 4 (.build [.st (.int .i64 0), .st (.int .i64 0), .full []] [(0, 1, .n 5), (1, 1, .t 3)]), .s 3 2 4]) .ret))
theorem MK : OkF Tryd.prog 6 5 [] I3 [.cell 2 true 3] := .of Tryd.func6 rfl rfl (by kernel_rfl) rfl
def H_ : IR :=
 (.seq (.ops [.i 2 (.alloc 24 [.st (.int .i64 0), .st (.int .i64 0), .full []])]) (.seq (.ops [.m 3 0, .i 4 (.build [.st (.int .i64 0), .st (.int .i64 0), .full []] [(0, 1, .n 4), (1, 1, .t 3)]), .s 3 2 4]) .ret))
theorem ME : OkF Tryd.prog 9 5 [] H_ [.cell 2 true 3] := .of Tryd.func9 rfl rfl (by kernel_rfl) rfl
def G7 : IR :=
 (.seq (.ops [.i 4 (.mov (.n 0))]) (.seq (.seq (.ops [.m 5 0, .i 6 (.bin .lss (.t 5) (.n 0))]) (.cond (.t 6) (.ops [.m 7 0, .i 8 (.bin .add (.t 7) (.n 1)), .i 9 (.un .neg (.t 8)), .m 0 9]) .skip)) (.seq (.ops [.m 10 0, .m 11 1, .i 12 (.bin .rem (.t 10) (.t 11)), .m 4 12]) .ret)))
theorem Kg : OkF Tryd.prog 10 13 [] G7 [.t 4] := .of Tryd.func10 rfl rfl (by kernel_rfl) rfl
def Bv : IR :=
 (.seq (.ops [.i 4 (.mov (.c (.one (.st (.bool false)))))]) (.seq (.ops [.i 13 (.call 6 [.n 0]), .i 14 (.call 7 [.n 0]), .i 15 (.call 5 [.t 13, .t 14]), .i 5 (.alloc 24 [.st (.int .i64 0), .st (.int .i64 0), .full []]), .s 3 5 15]) (.seq (.ops [.i 16 (.call 9 [.n 0]), .L 17 3 5, .i 18 (.call 5 [.t 16, .t 17]), .i 19 (.call 8 [.t 18]), .i 20 (.call 9 [.n 1]), .L 21 3 5, .i 22 (.call 5 [.t 20, .t 21]), .i 23 (.call 8 [.t 22]), .i 24 (.build [.st (.int .i64 0), .st (.int .i64 0), .full [], .st (.int .i64 0), .st (.int .i64 0), .full []] [(0, 3, .t 19), (3, 3, .t 23)]), .L 25 3 5, .i 26 (.call 8 [.t 25]), .m 27 1, .i 28 (.call 10 [.t 27, .n 9]), .i 29 (.call 9 [.t 28]), .L 30 3 5, .i 31 (.call 5 [.t 29, .t 30]), .i 32 (.call 8 [.t 31]), .i 33 (.build [.st (.int .i64 0), .st (.int .i64 0), .full [], .st (.int .i64 0), .st (.int .i64 0), .full []] [(0, 3, .t 26), (3, 3, .t 32)]), .i 34 (.call 6 [.n 0]), .i 35 (.call 7 [.n 1]), .i 36 (.call 5 [.t 34, .t 35]), .i 37 (.call 8 [.t 36]), .i 38 (.call 8 [.t 37]), .i 39 (.call 7 [.n 0]), .i 40 (.call 8 [.t 39]), .i 41 (.call 8 [.t 40]), .i 42 (.build [.st (.int .i64 0), .st (.int .i64 0), .full [], .st (.int .i64 0), .st (.int .i64 0), .full []] [(0, 3, .t 38), (3, 3, .t 41)]), .L 43 3 5, .i 44 (.call 8 [.t 43]), .i 45 (.call 6 [.n 0]), .i 46 (.call 7 [.n 0]), .i 47 (.call 5 [.t 45, .t 46]), .i 48 (.call 8 [.t 47]), .i 49 (.call 8 [.t 48]), .i 50 (.build [.st (.int .i64 0), .st (.int .i64 0), .full [], .st (.int .i64 0), .st (.int .i64 0), .full []] [(0, 3, .t 44), (3, 3, .t 49)]), .i 51 (.buildSlice false 29 6 [.t 24, .t 33, .t 42, .t 50]), .m 6 51]) (.seq (.ops [.m 53 6, .m 54 0, .i 55 (.call 10 [.t 54, .n 4]), .i 56 (.indexAddr 6 (.t 53) (.t 55)), .L 57 6 56, .i 58 (.buildSlice false 29 6 [.t 57]), .i 59 (.call 11 [.n 1, .t 58]), .m 52 59, .i 60 (.extract 0 (.t 52)), .i 61 (.extract 1 (.t 52)), .i 62 (.extract 2 (.t 52)), .m 7 60, .m 8 61, .m 9 62]) (.seq (.ops [.L 64 3 5, .i 65 (.call 8 [.t 64]), .m 66 1, .i 67 (.call 10 [.t 66, .n 9]), .i 68 (.call 9 [.t 67]), .i 69 (.call 7 [.n 0]), .i 70 (.call 5 [.t 68, .t 69]), .i 71 (.call 8 [.t 70]), .i 72 (.build [.st (.int .i64 0), .st (.int .i64 0), .full [], .st (.int .i64 0), .st (.int .i64 0), .full []] [(0, 3, .t 65), (3, 3, .t 71)]), .i 73 (.buildSlice false 29 6 [.t 72]), .i 74 (.call 11 [.n 1, .t 73]), .m 63 74, .i 75 (.extract 0 (.t 63)), .i 76 (.extract 1 (.t 63)), .i 77 (.extract 2 (.t 63)), .m 10 75, .m 11 76, .m 12 77]) (.seq (.ops [.m 78 9, .i 79 (.bin .eql (.t 78) (.n 7)), .m 80 79, .mk (some 81) (some (80, true)) (.mov (.t 7)) .no, .mk (some 82) (some (80, true)) (.len false (.t 81)) .no, .mk (some 83) (some (80, true)) (.bin .eql (.t 82) (.n 0)) .no, .i 84 (.pick (.t 80) (.t 83) (.c (.one (.st (.bool false))))), .m 85 84, .mk (some 86) (some (85, true)) (.mov (.t 8)) .no, .mk (some 87) (some (85, true)) (.bin .eql (.t 86) (.n 0)) .no, .i 88 (.pick (.t 85) (.t 87) (.c (.one (.st (.bool false))))), .m 89 88, .mk (some 90) (some (89, true)) (.mov (.t 12)) .no, .mk (some 91) (some (89, true)) (.bin .eql (.t 90) (.n 0)) .no, .i 92 (.pick (.t 89) (.t 91) (.c (.one (.st (.bool false))))), .m 93 92, .mk (some 94) (some (93, true)) (.mov (.t 11)) .no, .mk (some 95) (some (93, true)) (.bin .eql (.t 94) (.n 0)) .no, .i 96 (.pick (.t 93) (.t 95) (.c (.one (.st (.bool false))))), .m 97 96, .mk (some 98) (some (97, true)) (.mov (.t 10)) .no, .mk (some 99) (some (97, true)) (.len false (.t 98)) .no, .mk (some 100) (some (97, true)) (.bin .eql (.t 99) (.n 1)) .no, .i 101 (.pick (.t 97) (.t 100) (.c (.one (.st (.bool false))))), .m 102 101, .mk (some 103) (some (102, true)) (.mov (.t 10)) .no, .mk (some 104) (some (102, true)) (.indexAddr 3 (.t 103) (.n 0)) .no, .mk (some 105) (some (102, true)) (.load true 3 (.t 104)) .no, .mk (some 106) (some (102, true)) (.mov (.t 1)) .no, .mk (some 107) (some (102, true)) (.call 10 [.t 106, .n 9]) .no, .mk (some 108) (some (102, true)) (.call 9 [.t 107]) .no, .mk (some 109) (some (102, true)) (.call 12 [.t 105, .t 108]) .no, .i 110 (.pick (.t 102) (.t 109) (.c (.one (.st (.bool false))))), .m 4 110]) .ret))))))
theorem Cv : OkF Tryd.prog 3 111 [] Bv [.t 4] := .of Tryd.func3 rfl rfl (by kernel_rfl) rfl

def Ck : IR :=
 (.seq (.ops [.i 2 (.box 24 (.t 0)), .i 3 (.mov (.c (.one (.st (.bool false)))))]) (.seq (.ops [.L 4 3 1, .L 5 3 2, .i 6 (.call 54 [.t 4, .t 5]), .m 3 6]) .ret))
theorem Ex : OkF Tryd.prog 53 7 [] Ck [.t 3] := .of Tryd.func53 rfl rfl (by kernel_rfl) rfl
def Ao : IR :=
 (.seq (.ops [.i 4 (.mov (.n 0))]) (.seq (.seq (.ops [.m 6 0, .i 7 (.len false (.t 6)), .i 8 (.mov (.n 0))]) (.block 0 (.loop (.seq (.ops [.i 9 (.bin .lss (.t 8) (.t 7))]) (.seq (.cond (.t 9) .skip (.exit 0)) (.seq (.block 1 (.seq (.ops [.m 10 8, .m 5 10]) (.seq (.ops [.m 11 1, .m 12 0, .m 13 5, .i 14 (.indexAddr 3 (.t 12) (.t 13)), .L 15 3 14, .i 16 (.callV (.t 11) [.t 15])]) (.cond (.t 16) (.seq (.ops [.m 17 5, .m 4 17]) .ret) .skip)))) (.ops [.i 18 (.bin .add (.t 8) (.n 1)), .m 8 18]))))))) (.seq (.ops [.i 4 (.mov (.c (.one (.st (.int .i64 (-1))))))]) .ret)))
theorem BF : OkF Tryd.prog 69 19 [] Ao [.t 4] := .of Tryd.func69 rfl rfl (by kernel_rfl) rfl
def Am : IR :=
 (.seq (.ops [.i 4 (.mov (.c (.one (.st (.bool false)))))]) (.seq (.ops [.m 5 0, .m 6 1, .i 7 (.call 69 [.t 5, .t 6]), .i 8 (.bin .geq (.t 7) (.n 0)), .m 4 8]) .ret))
theorem BA : OkF Tryd.prog 52 9 [] Am [.t 4] := .of Tryd.func52 rfl rfl (by kernel_rfl) rfl
def As : IR :=
 (.seq (.ops [.i 2 (.mov (.c (.one (.full []))))]) (.seq (.seq (.ops [.m 3 0, .i 4 (.eqN false (.t 3))]) (.cond (.t 4) (.seq (.ops [.i 2 (.mov (.c (.one (.full []))))]) .ret) .skip)) (.seq (.ops [.i 5 (.buildSlice false 24 3 []), .m 6 0, .i 7 (.append false 24 3 40 (.t 5) (.t 6)), .m 2 7]) .ret)))
theorem BL : OkF Tryd.prog 51 8 [] As [.t 2] := .of Tryd.func51 rfl rfl (by kernel_rfl) rfl
def DY : IR :=
 (.seq (.ops [.i 3 (.box 24 (.t 0)), .i 6 (.mov (.c (.one (.st (.bool false)))))]) (.seq (.seq (.ops [.f 11 0 3, .l 12 11]) (.block 0 (.seq (.ops [.i 14 (.bin .eql (.t 12) (.n 2)), .m 13 14]) (.cond (.t 13) (.seq (.ops [.m 15 1, .i 16 (.len false (.t 15)), .i 17 (.bin .eql (.t 16) (.n 0)), .m 18 17, .mk (some 19) (some (18, true)) (.fieldAddr 2 (.t 3)) .no, .mk (some 20) (some (18, true)) (.load false 1 (.t 19)) .no, .mk (some 21) (some (18, true)) (.indexAddr 3 (.t 20) (.n 0)) .no, .mk (some 22) (some (18, true)) (.load true 3 (.t 21)) .no, .mk (some 23) (some (18, true)) (.mov (.t 2)) .no, .mk (some 24) (some (18, true)) (.callX 33 [.t 22, .c (.one (.full [])), .t 23]) .no, .i 25 (.pick (.t 18) (.t 24) (.c (.one (.st (.bool false))))), .m 6 25]) .ret) (.seq (.ops [.i 27 (.bin .eql (.t 12) (.n 3)), .m 26 27]) (.cond (.t 26) (.seq (.ops [.f 28 2 3, .l 29 28, .i 30 (.indexAddr 3 (.t 29) (.n 1)), .L 31 3 30, .m 32 2, .i 33 (.callX 33 [.t 31, .c (.one (.full [])), .t 32]), .m 34 33, .mk (some 35) (some (34, true)) (.fieldAddr 2 (.t 3)) (.onb 3), .mk (some 36) (some (34, true)) (.load false 1 (.t 35)) (.onb 3), .mk (some 37) (some (34, true)) (.indexL 3 (.t 36) (.n 0)) .no, .mk (some 38) (some (34, true)) (.loadL true 3 (.t 37)) .no, .mk (some 39) (some (34, true)) (.mov (.t 1)) .no, .mk (some 40) (some (34, true)) (.callN 51 [.t 39]) (.keeps [3, 3]), .mk (some 41) (some (34, true)) (.fieldAddr 2 (.t 3)) (.onb 3), .mk (some 42) (some (34, true)) (.load false 1 (.t 41)) (.onb 3), .mk (some 43) (some (34, true)) (.indexL 3 (.t 42) (.n 1)) .no, .mk (some 44) (some (34, true)) (.loadL true 3 (.t 43)) .no, .mk (some 45) (some (34, true)) (.buildL 3 [.t 44]) .no, .mk (some 46) (some (34, true)) (.append false 24 3 40 (.t 40) (.t 45)) (.keeps [3, 3]), .mk (some 47) (some (34, true)) (.mov (.t 2)) .no, .mk (some 48) (some (34, true)) (.callX 33 [.t 38, .t 46, .t 47]) .no, .i 49 (.pick (.t 34) (.t 48) (.c (.one (.st (.bool false))))), .m 6 49]) .ret) (.seq (.ops [.i 51 (.bin .eql (.t 12) (.n 5)), .m 50 51]) (.cond (.t 50) (.seq (.seq (.ops [.m 52 1, .i 53 (.len false (.t 52)), .i 54 (.mov (.n 0))]) (.block 1 (.loop (.seq (.ops [.i 55 (.bin .lss (.t 54) (.t 53))]) (.seq (.cond (.t 55) .skip (.exit 1)) (.seq (.block 2 (.seq (.ops [.m 56 54, .i 57 (.indexAddr 3 (.t 52) (.t 54)), .L 58 3 57, .i 8 (.alloc 24 [.st (.int .i64 0), .st (.int .i64 0), .full []]), .m 7 56, .s 3 8 58]) (.seq (.ops [.f 59 0 8, .l 60 59, .i 61 (.bin .neq (.t 60) (.n 1)), .m 62 61, .mk (some 63) (some (62, false)) (.mov (.t 1)) .no, .mk (some 64) (some (62, false)) (.mov (.t 7)) .no, .mk (some 65) (some (62, false)) (.sliceL 3 (.t 63) none (some (.t 64))) .no, .mk (some 66) (some (62, false)) (.makeFunc 53 [.t 8]) .no, .mk (some 67) (some (62, false)) (.call 52 [.t 65, .t 66]) .no, .i 68 (.pick (.t 62) (.c (.one (.st (.bool true)))) (.t 67))]) (.cond (.t 68) (.seq (.ops [.i 6 (.mov (.c (.one (.st (.bool false)))))]) .ret) .skip)))) (.ops [.i 69 (.bin .add (.t 54) (.n 1)), .m 54 69]))))))) (.seq (.ops [.m 71 2, .f 72 1 3, .l 73 72, .i 74 (.lookup (some (Go.Proofs.YtcgnojefbalbbaaDoor.KK.int .i64)) true (.one (.st (.int .i64 0))) (.t 71) (.t 73)), .m 70 74, .i 75 (.extract 0 (.t 70)), .i 76 (.extract 1 (.t 70)), .m 9 75, .m 10 76]) (.seq (.ops [.m 77 2, .f 78 1 3, .l 79 78, .m 80 1, .i 81 (.len false (.t 80)), .mk none none (.mapSet (some (Go.Proofs.YtcgnojefbalbbaaDoor.KK.int .i64)) (.t 77) (.t 79) (.t 81)) .no]) (.seq (.ops [.m 82 10, .i 83 (.un .not (.t 82)), .m 84 83, .mk (some 85) (some (84, false)) (.mov (.t 9)) .no, .mk (some 86) (some (84, false)) (.mov (.t 1)) .no, .mk (some 87) (some (84, false)) (.len false (.t 86)) .no, .mk (some 88) (some (84, false)) (.bin .eql (.t 85) (.t 87)) .no, .i 89 (.pick (.t 84) (.c (.one (.st (.bool true)))) (.t 88)), .m 6 89]) .ret)))) .skip)))))))) (.seq (.ops [.i 6 (.mov (.c (.one (.st (.bool true)))))]) .ret)))
theorem Fk : OkF Tryd.prog 33 90 [80000024, 80000033, 80000048, 20000040, 60000037, 60000038, 60000043, 60000044, 60000045] DY [.t 6] := .of Tryd.func33 rfl rfl (by kernel_rfl) rfl
def Cy : IR :=
 (.seq (.ops [.i 4 (.mov (.n 0))]) (.seq (.seq (.ops [.m 15 0, .i 16 (.bin .lss (.t 15) (.n 0)), .m 17 16, .mk (some 18) (some (17, false)) (.mov (.t 0)) .no, .mk (some 19) (some (17, false)) (.bin .gtr (.t 18) (.n 4)) .no, .i 20 (.pick (.t 17) (.c (.one (.st (.bool true)))) (.t 19)), .m 21 20, .mk (some 22) (some (21, false)) (.mov (.t 1)) .no, .mk (some 23) (some (21, false)) (.len false (.t 22)) .no, .mk (some 24) (some (21, false)) (.bin .gtr (.t 23) (.n 3)) .no, .i 25 (.pick (.t 21) (.c (.one (.st (.bool true)))) (.t 24))]) (.cond (.t 25) (.seq (.ops [.i 4 (.mov (.n 3))]) .ret) .skip)) (.seq (.seq (.ops [.m 26 1, .i 27 (.len false (.t 26)), .i 28 (.mov (.n 0))]) (.block 0 (.loop (.seq (.ops [.i 29 (.bin .lss (.t 28) (.t 27))]) (.seq (.cond (.t 29) .skip (.exit 0)) (.seq (.block 1 (.seq (.ops [.i 30 (.indexAddr 6 (.t 26) (.t 28)), .L 31 6 30, .i 6 (.alloc 29 [.st (.int .i64 0), .st (.int .i64 0), .full [], .st (.int .i64 0), .st (.int .i64 0), .full []]), .s 6 6 31]) (.seq (.ops [.f 32 0 6, .L 33 3 32, .f 34 3 6, .L 35 3 34, .i 36 (.buildSlice false 24 3 [.t 33, .t 35]), .i 37 (.len false (.t 36)), .i 38 (.mov (.n 0))]) (.block 2 (.loop (.seq (.ops [.i 39 (.bin .lss (.t 38) (.t 37))]) (.seq (.cond (.t 39) .skip (.exit 2)) (.seq (.block 3 (.seq (.ops [.i 40 (.indexAddr 3 (.t 36) (.t 38)), .L 41 3 40, .i 8 (.alloc 24 [.st (.int .i64 0), .st (.int .i64 0), .full []]), .s 3 8 41]) (.seq (.seq (.ops [.L 42 3 8, .m 43 0, .i 44 (.call 31 [.t 42, .n 0, .t 43]), .m 9 44]) (.seq (.ops [.m 45 9, .i 46 (.bin .neq (.t 45) (.n 0))]) (.cond (.t 46) (.seq (.ops [.m 47 9, .m 4 47]) .ret) .skip))) (.seq (.ops [.L 48 3 8, .i 49 (.call 32 [.t 48]), .i 50 (.bin .gtr (.t 49) (.n 24))]) (.cond (.t 50) (.seq (.ops [.i 4 (.mov (.n 3))]) .ret) .skip))))) (.ops [.i 51 (.bin .add (.t 38) (.n 1)), .m 38 51]))))))))) (.ops [.i 52 (.bin .add (.t 28) (.n 1)), .m 28 52]))))))) (.seq (.ops [.i 53 (.makeMap (some (Go.Proofs.YtcgnojefbalbbaaDoor.KK.int .i64))), .m 10 53]) (.seq (.seq (.ops [.m 54 1, .i 55 (.len false (.t 54)), .i 56 (.mov (.n 0))]) (.block 4 (.loop (.seq (.ops [.i 57 (.bin .lss (.t 56) (.t 55))]) (.seq (.cond (.t 57) .skip (.exit 4)) (.seq (.block 5 (.seq (.ops [.i 58 (.indexAddr 6 (.t 54) (.t 56)), .L 59 6 58, .i 12 (.alloc 29 [.st (.int .i64 0), .st (.int .i64 0), .full [], .st (.int .i64 0), .st (.int .i64 0), .full []]), .s 6 12 59]) (.seq (.ops [.f 60 0 12, .L 61 3 60, .f 62 3 12, .L 63 3 62, .i 64 (.buildSlice false 24 3 [.t 61, .t 63]), .i 65 (.len false (.t 64)), .i 66 (.mov (.n 0))]) (.block 6 (.loop (.seq (.ops [.i 67 (.bin .lss (.t 66) (.t 65))]) (.seq (.cond (.t 67) .skip (.exit 6)) (.seq (.block 7 (.seq (.ops [.i 68 (.indexAddr 3 (.t 64) (.t 66)), .L 69 3 68, .i 14 (.alloc 24 [.st (.int .i64 0), .st (.int .i64 0), .full []]), .s 3 14 69]) (.seq (.ops [.L 70 3 14, .m 71 10, .i 72 (.callS 33 [.t 70, .c (.one (.full [])), .t 71]), .i 73 (.un .not (.t 72))]) (.cond (.t 73) (.seq (.ops [.i 4 (.mov (.n 2))]) .ret) .skip)))) (.ops [.i 74 (.bin .add (.t 66) (.n 1)), .m 66 74]))))))))) (.ops [.i 75 (.bin .add (.t 56) (.n 1)), .m 56 75]))))))) (.seq (.ops [.i 4 (.mov (.n 0))]) .ret))))))
theorem FF : OkF Tryd.prog 17 76 [72] Cy [.t 4] := .of Tryd.func17 rfl rfl (by kernel_rfl) rfl
def C0 : IR :=
 (.seq (.ops [.i 4 (.mov (.c (.one (.full [])))), .i 5 (.mov (.n 0)), .i 6 (.mov (.n 0))]) (.seq (.seq (.ops [.m 14 0, .m 15 1, .i 16 (.call 17 [.t 14, .t 15]), .m 7 16]) (.seq (.ops [.m 17 7, .i 18 (.bin .neq (.t 17) (.n 0))]) (.cond (.t 18) (.seq (.ops [.m 19 7, .i 4 (.mov (.c (.one (.full [])))), .i 5 (.mov (.n 0)), .m 6 19]) .ret) .skip))) (.seq (.ops [.m 20 0, .i 21 (.makeSlice 24 3 40 [.int .i64 0, .int .i64 0, .list []] (.t 20) (.t 20)), .i 22 (.build [.full []] [(0, 1, .t 21)]), .i 23 (.box 47 (.t 22)), .m 8 23]) (.seq (.seq (.ops [.m 24 1, .i 25 (.len false (.t 24)), .i 26 (.mov (.n 0))]) (.block 0 (.loop (.seq (.ops [.i 27 (.bin .lss (.t 26) (.t 25))]) (.seq (.cond (.t 27) .skip (.exit 0)) (.seq (.block 1 (.seq (.ops [.i 28 (.indexAddr 6 (.t 24) (.t 26)), .L 29 6 28, .i 10 (.alloc 29 [.st (.int .i64 0), .st (.int .i64 0), .full [], .st (.int .i64 0), .st (.int .i64 0), .full []]), .s 6 10 29]) (.seq (.ops [.m 30 8, .f 31 0 10, .L 32 3 31, .f 33 3 10, .L 34 3 33, .i 35 (.callW 18 [.t 30, .t 32, .t 34]), .i 36 (.un .not (.t 35))]) (.cond (.t 36) (.seq (.ops [.i 4 (.mov (.c (.one (.full [])))), .i 5 (.mov (.n 0)), .i 6 (.mov (.n 7))]) .ret) .skip)))) (.ops [.i 37 (.bin .add (.t 26) (.n 1)), .m 26 37]))))))) (.seq (.ops [.i 11 (.mov (.c (.one (.full []))))]) (.seq (.ops [.i 38 (.makeMap (some (Go.Proofs.YtcgnojefbalbbaaDoor.KK.int .i64))), .m 12 38]) (.seq (.seq (.ops [.m 39 0, .i 40 (.mov (.n 0))]) (.block 2 (.loop (.seq (.ops [.i 41 (.bin .lss (.t 40) (.t 39))]) (.seq (.cond (.t 41) .skip (.exit 2)) (.seq (.block 3 (.seq (.ops [.m 42 40, .m 13 42]) (.ops [.m 43 11, .m 44 8, .m 45 13, .i 46 (.call 22 [.t 45]), .i 47 (.callR 21 [.t 44, .t 46]), .i 48 (.call 20 [.t 47]), .m 49 12, .i 50 (.callW 19 [.t 48, .t 49]), .i 51 (.buildSlice false 24 3 [.t 50]), .i 52 (.append false 24 3 40 (.t 43) (.t 51)), .m 11 52]))) (.ops [.i 53 (.bin .add (.t 40) (.n 1)), .m 40 53]))))))) (.seq (.ops [.m 54 11, .m 55 12, .i 56 (.lenM (.t 55)), .m 4 54, .m 5 56, .i 6 (.mov (.n 0))]) .ret))))))))
theorem E3 : OkF Tryd.prog 11 57 [40000047, 50000035, 50000050] C0 [.t 4, .t 5, .t 6] := .of Tryd.func11 rfl rfl (by kernel_rfl) rfl

def okL (t : Lm) : Bool := decide (t.chk 40 100 = 0) && decide (t.size ≤ 1000)
def mU (i : Int) : Lm := .mk 5 i []
def C1 (h : Lm) (l : List Lm) : Lm := l.foldl Lm.a h
def Bn (b : Lm) (n : Nat) : Lm := Nat.rec b (fun _ t => Lm.l t) n
def CO (l : List Int) (n : Int) : List Lm := l.map fun i => Lm.v (n - 1 - i)
def Dg : Nat → Lm → List Lm → Lm × List Lm
 | 0, t, acc => (t, acc)
 | f + 1, t, acc => if t.kind = 3 then (match t.subs with
  | [g, x] => Dg f g (x :: acc)
  | _ => (t, acc)) else (t, acc)
def Av (t : Lm) : Lm × List Lm := Dg t.size t []
def Dy : Nat → List Lm → Lm → Option Lm
 | 0, _, _ => none
 | f + 1, K, t => if okL t = false then none else
  if (Av t).1.kind = 5 then
   (match K[(Av t).1.idx.toNat]? with
   | none => none
   | some k => if k.kind = 0 then some t else Dy f K (C1 k (Av t).2))
  else if (Av t).1.kind = 2 then
   (match (Av t).2 with
   | [] => some t
   | x :: w => match (Av t).1.subs with
    | [b] => if okL b = true ∧ okL x = true then Dy f K (C1 (Lm.put x 0 b) w) else none
    | _ => none)
  else some t
def Dv (t : Lm) : Lm := if t.kind = 2 then t.subs.headD .nil else Lm.a (Lm.mv 1 0 t) (Lm.v 0)
def Ay : Int → List Lm → List Lm → List Int
 | i, x :: xs, y :: ys => if x.idx = y.idx then i :: Ay (i + 1) xs ys else Ay (i + 1) xs ys
 | _, _, _ => []
def In (K : List Lm) (m : Int) (l : List Int) (n : Nat) : List Lm := (K ++ [Lm.nil]).set m.toNat (Bn (C1 (mU K.length) (CO l n)) n)
def J1 (K : List Lm) (m : Int) (x y : List Lm) : Option (List Lm × Bool) :=
 if ¬ (0 ≤ m ∧ m.toNat < K.length ∧ x.length ≤ 100 ∧ K.length ≤ 100) then none else
 if ¬ x.length = y.length then some (K, false) else
 if (Ay 0 x y).length < x.length then some (In K m (Ay 0 x y) x.length, true) else some (K, true)
def D3 : List (Int × Int) → Int → Int → List (Int × Int)
 | [], k, v => [(k, v)]
 | p :: l, k, v => if p.1 = k then (p.1, v) :: l else p :: D3 l k v
def Dh : List (Int × Int) → Int → Option Int
 | [], _ => none
 | p :: l, k => if p.1 = k then some p.2 else Dh l k
def atP : Int → List (Int × Int) → List Lm → List (Int × Int)
 | _, es, [] => es
 | i, es, x :: xs => atP (i + 1) (D3 es x.idx i) xs
def BE (es : List (Int × Int)) (n d i : Int) : Lm × Bool := if i < d then (Lm.v i, true) else match Dh es (i - d) with
 | some k => (Lm.v (d + n - 1 - k), true)
 | none => (Lm.v (d + n - 1 - 0), false)
def Br (es : List (Int × Int)) (n d : Int) : Int → List Lm → List Int
 | _, [] => []
 | i, x :: xs => if (BE es n d x.idx).2 = true then i :: Br es n d (i + 1) xs else Br es n d (i + 1) xs
mutual
def GA : Nat → Int → List (Int × Int) → Int → List Lm → Lm → Int → Option (List Lm × Lm × Bool)
 | 0, _, _, _, _, _, _ => none
 | f + 1, m, es, n, K, t0, d => match Dy f K t0 with
  | none => none
  | some t => if t.kind = 2 ∨ okL t = false ∨ ¬ (0 ≤ d ∧ d ≤ 100 ∧ 0 ≤ n ∧ n ≤ 100 ∧ K.length ≤ 100 ∧ (Av t).2.length ≤ 100 ∧ es.all (fun p => decide (0 ≤ p.2 ∧ p.2 ≤ 100)) = true) then none else
   if (Av t).1.kind = 5 then
    if (Av t).1.idx = m then some (K, t, false) else
    if ¬ (0 ≤ (Av t).1.idx ∧ (Av t).1.idx.toNat < K.length) then none else
    if (Br es n d 0 (Av t).2).length < (Av t).2.length then
     some (In K (Av t).1.idx (Br es n d 0 (Av t).2) (Av t).2.length, C1 (mU K.length) ((Br es n d 0 (Av t).2).map fun i => (BE es n d ((Av t).2.getD i.toNat .nil).idx).1), true)
    else some (K, C1 (Av t).1 ((Br es n d 0 (Av t).2).map fun i => (BE es n d ((Av t).2.getD i.toNat .nil).idx).1), true)
   else if (Av t).1.kind = 1 then
    if (BE es n d (Av t).1.idx).2 = true then Ds f m es n K (Av t).2 d t (BE es n d (Av t).1.idx).1 else some (K, t, false)
   else Ds f m es n K (Av t).2 d t (Av t).1
def Ds : Nat → Int → List (Int × Int) → Int → List Lm → List Lm → Int → Lm → Lm → Option (List Lm × Lm × Bool)
 | 0, _, _, _, _, _, _, _, _ => none
 | f + 1, m, es, n, K, [], d, t, h => some (K, h, true)
 | f + 1, m, es, n, K, a :: w, d, t, h => match GA f m es n K a d with
  | none => none
  | some (K', x, true) => Ds f m es n K' w d t (Lm.a h x)
  | some (K', x, false) => some (K', t, false)
end
def KO (f : Nat) (K : List Lm) (m : Int) (x : List Lm) (t : Lm) : Option (List Lm × Bool) :=
 if ¬ (0 ≤ m ∧ m.toNat < K.length ∧ x.length ≤ 100) then none else
 match GA f m (atP 0 [] x) x.length K t 0 with
 | none => none
 | some (K', b, true) => if m.toNat < K'.length then some (K'.set m.toNat (Bn b x.length), true) else none
 | some (K', b, false) => some (K', false)
mutual
def Eb : Nat → List Lm → Lm → Lm → Option (List Lm × Bool)
 | 0, _, _, _ => none
 | f + 1, K, a0, b0 => match Dy f K a0, Dy f K b0 with
  | some a, some b => if okL a = false ∨ okL b = false then none else
   if a.kind = 2 ∨ b.kind = 2 then Eb f K (Dv a) (Dv b) else
   if (Av a).1.kind = 5 ∧ (Av b).1.kind = 5 ∧ (Av a).1.idx = (Av b).1.idx then J1 K (Av a).1.idx (Av a).2 (Av b).2
   else if (Av a).1.kind = 5 then KO f K (Av a).1.idx (Av a).2 b
   else if (Av b).1.kind = 5 then KO f K (Av b).1.idx (Av b).2 a
   else if ¬ ((Av a).1.kind = (Av b).1.kind ∧ (Av a).1.idx = (Av b).1.idx ∧ (Av a).2.length = (Av b).2.length) then some (K, false)
   else Gf f K (Av a).2 (Av b).2
  | _, _ => none
def Gf : Nat → List Lm → List Lm → List Lm → Option (List Lm × Bool)
 | 0, _, _, _ => none
 | f + 1, K, x :: xs, y :: ys => match Eb f K x y with
  | some (K', true) => Gf f K' xs ys
  | some (K', false) => some (K', false)
  | none => none
 | f + 1, K, _, _ => some (K, true)
end
mutual
def Dm : Nat → List Lm → Lm → Option Lm
 | 0, _, _ => none
 | f + 1, K, t0 => match Dy f K t0 with
  | none => none
  | some t => (CZ f K t.subs).map fun l => .mk t.kind t.idx l
def CZ : Nat → List Lm → List Lm → Option (List Lm)
 | 0, _, _ => none
 | f + 1, K, [] => some []
 | f + 1, K, t :: ts => match Dm f K t, CZ f K ts with
  | some x, some l => some (x :: l)
  | _, _ => none
end
def Gs (es : List (Int × Int)) (i : Int) : List (Int × Int) := if (Dh es i).isSome = true then es else D3 es i es.length
mutual
def nmP : Lm → List (Int × Int) → Lm × List (Int × Int)
 | .mk k i xs, es => if k = 5 then (.mk k ((Dh (Gs es i) i).getD 0) (CF xs (Gs es i)).1, (CF xs (Gs es i)).2) else (.mk k i (CF xs es).1, (CF xs es).2)
def CF : List Lm → List (Int × Int) → List Lm × List (Int × Int)
 | [], es => ([], es)
 | t :: ts, es => ((nmP t es).1 :: (CF ts (nmP t es).2).1, (CF ts (nmP t es).2).2)
end
theorem GK {t : Lm} (h : okL t = true) : t.wf := by
 unfold okL at h
 simp only [Bool.and_eq_true, decide_eq_true_eq] at h
 exact Lm.wf_chk t _ h.1
theorem CS {t : Lm} (h : okL t = true) : t.good 1000000000 ∧ t.size ≤ 1000 := by
 unfold okL at h
 simp only [Bool.and_eq_true, decide_eq_true_eq] at h
 exact ⟨Lm.good_chk (by omega) t 100 _ (by omega) (by omega) (by omega) h.1, h.2⟩

def CB : List Lm → List Lm → Bool
 | _, [] => true
 | pre, x :: xs => if x.kind = 1 ∧ pre.any (fun y => x.same y) = false then CB (pre ++ [x]) xs else false
def Da : Nat → Lm → List Lm → List (Int × Int) → Bool × List (Int × Int)
 | 0, _, _, m => (true, m)
 | f + 1, t, w, m =>
  if t.kind = 2 then (if w.length = 0 then Da f (t.subs.headD .nil) [] m else (false, m))
  else if t.kind = 3 then (if (Da f (t.subs.getD 1 .nil) [] m).1 = true then Da f (t.subs.headD .nil) (w ++ [t.subs.getD 1 .nil]) (Da f (t.subs.getD 1 .nil) [] m).2 else (false, (Da f (t.subs.getD 1 .nil) [] m).2))
  else if t.kind = 5 then (if CB [] w = true then ((match Dh m t.idx with | none => true | some n => decide (n = (w.length : Int))), D3 m t.idx w.length) else (false, m))
  else (true, m)
def Eh (t : Lm) (m : List (Int × Int)) : Bool × List (Int × Int) := Da t.size t [] m
def DN (metas : Int) : List Lm → Int
 | [] => 0
 | t :: ts => if ¬ t.may metas 0 = 0 then t.may metas 0 else if 24 < t.size then 3 else DN metas ts
def FB : List Lm → List (Int × Int) → Bool × List (Int × Int)
 | [], m => (true, m)
 | t :: ts, m => if (Eh t m).1 = true then FB ts (Eh t m).2 else (false, (Eh t m).2)
def CR (gs : List (Lm × Lm)) : List Lm := gs.flatMap fun g => [g.1, g.2]
def ER (metas : Int) (gs : List (Lm × Lm)) : Int := if metas < 0 ∨ 4 < metas ∨ 3 < gs.length then 3 else if ¬ DN metas (CR gs) = 0 then DN metas (CR gs) else if (FB (CR gs) []).1 = true then 0 else 2
def E1 (f : Nat) : List Lm → List (Lm × Lm) → Option (List Lm × Bool)
 | K, [] => some (K, true)
 | K, g :: gs => match Eb f K g.1 g.2 with
  | none => none
  | some (K', false) => some (K', false)
  | some (K', true) => E1 f K' gs
def Km (f : Nat) (K : List Lm) : List Nat → List (Int × Int) → Option (List Lm × List (Int × Int))
 | [], es => some ([], es)
 | i :: is, es => match Dm f K (mU i) with
  | none => none
  | some t => if okL t = true ∧ t.eta1.size ≤ 1000 then (Km f K is (nmP t.eta1 es).2).map fun q => ((nmP t.eta1 es).1 :: q.1, q.2) else none
def E9 (f : Nat) (metas : Int) (gs : List (Lm × Lm)) : Option (List Lm × Int × Int) :=
 if ¬ ER metas gs = 0 then some ([], 0, ER metas gs) else
 match E1 f (List.replicate metas.toNat .nil) gs with
 | none => none
 | some (_, false) => some ([], 0, 7)
 | some (K, true) => match Km f K (List.range metas.toNat) [] with
  | none => none
  | some (l, es) => some (l, es.length, 0)
theorem FX : ∀ {pre w : List Lm} {k : Nat} {x : Lm}, CB pre (w.take k) = true → w[k]? = some x → (x.kind = 1 ∧ (pre ++ w.take k).any (fun y => x.same y) = false → CB pre (w.take (k + 1)) = true) ∧ (¬ (x.kind = 1 ∧ (pre ++ w.take k).any (fun y => x.same y) = false) → CB pre w = false)
 | pre, [], k, x, _, h => by simp at h
 | pre, y :: ys, 0, x, h0, h => by
  simp only [List.getElem?_cons_zero, Option.some.injEq] at h
  subst h
  simp only [List.take_zero, List.append_nil]
  constructor
  ·intro hc
   rw [List.take_succ_cons, List.take_zero, CB, if_pos hc]
   rfl
  ·intro hc
   rw [CB, if_neg hc]
 | pre, y :: ys, k + 1, x, h0, h => by
  rw [List.getElem?_cons_succ] at h
  rw [List.take_succ_cons, CB] at h0
  split at h0
  ·rename_i hc
   have ih := FX h0 h
   rw [List.append_assoc, List.singleton_append] at ih
   rw [List.take_succ_cons, List.take_succ_cons, CB, if_pos hc]
   refine ⟨ih.1, fun hn => ?_⟩
   rw [CB, if_pos hc]
   exact ih.2 hn
  ·cases h0

def BY : IR :=
 (.seq (.ops [.i 3 (.box 24 (.t 1)), .i 4 (.alloc 24 [.st (.int .i64 0), .st (.int .i64 0), .full []])]) (.block 0 (.loop (.block 1 (.seq (.ops [.L 8 3 3, .i 9 (.call 36 [.t 8]), .m 7 9, .i 10 (.extract 0 (.t 7)), .i 11 (.extract 1 (.t 7)), .i 5 (.alloc 24 [.st (.int .i64 0), .st (.int .i64 0), .full []]), .s 3 5 10, .m 6 11]) (.block 2 (.seq (.ops [.f 14 0 5, .l 15 14, .i 16 (.bin .eql (.t 15) (.n 5)), .m 17 16, .mk (some 18) (some (17, true)) (.mov (.t 0)) .no, .mk (some 19) (some (17, true)) (.nilCheck (.t 18)) .no, .mk (some 20) (some (17, true)) (.fieldAddr 0 (.t 19)) .no, .mk (some 21) (some (17, true)) (.load false 1 (.t 20)) .no, .mk (some 22) (some (17, true)) (.fieldAddr 1 (.t 5)) .no, .mk (some 23) (some (17, true)) (.load false 1 (.t 22)) .no, .mk (some 24) (some (17, true)) (.indexAddr 3 (.t 21) (.t 23)) .no, .mk (some 25) (some (17, true)) (.fieldAddr 0 (.t 24)) .no, .mk (some 26) (some (17, true)) (.load false 1 (.t 25)) .no, .mk (some 27) (some (17, true)) (.bin .neq (.t 26) (.n 0)) .no, .i 28 (.pick (.t 17) (.t 27) (.c (.one (.st (.bool false))))), .m 13 28]) (.cond (.t 13) (.ops [.m 29 0, .i 30 (.nilCheck (.t 29)), .f 31 0 30, .l 32 31, .f 33 1 5, .l 34 33, .i 35 (.indexAddr 3 (.t 32) (.t 34)), .L 36 3 35, .m 37 6, .i 38 (.call 55 [.t 36, .t 37]), .s 3 3 38]) (.seq (.ops [.f 40 0 5, .l 41 40, .i 42 (.bin .eql (.t 41) (.n 2)), .m 43 42, .mk (some 44) (some (43, true)) (.mov (.t 6)) .no, .mk (some 45) (some (43, true)) (.len false (.t 44)) .no, .mk (some 46) (some (43, true)) (.bin .gtr (.t 45) (.n 0)) .no, .i 47 (.pick (.t 43) (.t 46) (.c (.one (.st (.bool false))))), .m 39 47]) (.cond (.t 39) (.ops [.f 48 2 5, .l 49 48, .i 50 (.indexAddr 3 (.t 49) (.n 0)), .L 51 3 50, .m 52 6, .i 53 (.indexAddr 3 (.t 52) (.n 0)), .L 54 3 53, .i 55 (.call 56 [.t 51, .t 54]), .m 56 6, .i 57 (.sliceL 3 (.t 56) (some (.n 1)) none), .i 58 (.call 55 [.t 55, .t 57]), .s 3 3 58]) (.seq (.ops [.L 12 3 3, .s 3 4 12]) .ret)))))))))))
theorem CG : OkF Tryd.prog 34 59 [] BY [.cell 4 true 3] := .of Tryd.func34 rfl rfl (by kernel_rfl) rfl
def BQ : IR :=
 (.seq (.ops [.i 2 (.alloc 24 [.st (.int .i64 0), .st (.int .i64 0), .full []])]) (.seq (.ops [.m 3 0, .i 4 (.nilCheck (.t 3)), .f 5 0 4, .l 6 5, .i 7 (.build [.st (.int .i64 0), .st (.int .i64 0), .full []] []), .i 8 (.len false (.t 6)), .i 9 (.buildSlice false 24 3 [.c (.agg [.st (.int .i64 0), .st (.int .i64 0), .full []])]), .i 10 (.append true 24 3 40 (.t 6) (.t 9)), .i 11 (.indexAddr 3 (.t 10) (.t 8)), .mk none none (.store 3 (.t 11) (.t 7)) (.onb 2021), .mk (some 12) none (.nilCheck (.t 3)) (.onb 2023), .mk (some 13) none (.fieldAddr 0 (.t 12)) (.onb 2023), .mk none none (.store 1 (.t 13) (.t 10)) (.onb 2023)]) (.seq (.ops [.m 14 0, .i 15 (.nilCheck (.t 14)), .f 16 0 15, .l 17 16, .i 18 (.len false (.t 17)), .i 19 (.bin .sub (.t 18) (.n 1)), .i 20 (.call 22 [.t 19]), .s 3 2 20]) .ret)))
theorem B2 : OkF Tryd.prog 60 21 [10, 10032023, 10112021] BQ [.cell 2 true 3] := .of Tryd.func60 rfl rfl (by kernel_rfl) rfl
def BU : IR :=
 (.seq (.ops [.i 8 (.mov (.c (.one (.st (.bool false)))))]) (.seq (.seq (.ops [.m 12 2, .i 13 (.len false (.t 12)), .m 14 3, .i 15 (.len false (.t 14)), .i 16 (.bin .neq (.t 13) (.t 15))]) (.cond (.t 16) (.seq (.ops [.i 8 (.mov (.c (.one (.st (.bool false)))))]) .ret) .skip)) (.seq (.ops [.i 9 (.mov (.c (.one (.full []))))]) (.seq (.seq (.ops [.m 17 2, .i 18 (.len false (.t 17)), .i 19 (.mov (.n 0))]) (.block 0 (.loop (.seq (.ops [.i 20 (.bin .lss (.t 19) (.t 18))]) (.seq (.cond (.t 20) .skip (.exit 0)) (.seq (.block 1 (.seq (.ops [.m 21 19, .m 10 21]) (.seq (.ops [.m 22 2, .m 23 10, .i 24 (.indexAddr 3 (.t 22) (.t 23)), .f 25 1 24, .l 26 25, .m 27 3, .m 28 10, .i 29 (.indexAddr 3 (.t 27) (.t 28)), .f 30 1 29, .l 31 30, .i 32 (.bin .eql (.t 26) (.t 31))]) (.cond (.t 32) (.ops [.m 33 9, .m 34 10, .i 35 (.buildFlat [.t 34]), .i 36 (.append false 3 1 8 (.t 33) (.t 35)), .m 9 36]) .skip)))) (.ops [.i 37 (.bin .add (.t 19) (.n 1)), .m 19 37]))))))) (.seq (.seq (.ops [.m 38 9, .i 39 (.len false (.t 38)), .m 40 2, .i 41 (.len false (.t 40)), .i 42 (.bin .lss (.t 39) (.t 41))]) (.cond (.t 42) (.seq (.ops [.m 43 0, .i 44 (.callX 60 [.t 43]), .i 11 (.alloc 24 [.st (.int .i64 0), .st (.int .i64 0), .full []]), .s 3 11 44]) (.ops [.m 45 0, .i 46 (.nilCheck (.t 45)), .f 47 0 46, .l 48 47, .m 49 1, .L 50 3 11, .m 51 9, .m 52 2, .i 53 (.len false (.t 52)), .i 54 (.call 62 [.t 51, .t 53]), .i 55 (.call 55 [.t 50, .t 54]), .m 56 2, .i 57 (.len false (.t 56)), .i 58 (.call 61 [.t 55, .t 57]), .i 59 (.indexAddr 3 (.t 48) (.t 49)), .s 3 59 58])) .skip)) (.seq (.ops [.i 8 (.mov (.c (.one (.st (.bool true)))))]) .ret))))))
theorem CD : OkF Tryd.prog 37 60 [80000044] BU [.t 8] := .of Tryd.func37 rfl rfl (by kernel_rfl) rfl
def BO : IR :=
 (.seq (.ops [.i 5 (.alloc 24 [.st (.int .i64 0), .st (.int .i64 0), .full []]), .i 6 (.mov (.c (.one (.st (.bool false)))))]) (.seq (.seq (.ops [.m 9 0, .l 10 1, .i 11 (.bin .lss (.t 9) (.t 10))]) (.cond (.t 11) (.seq (.ops [.m 12 0, .i 13 (.call 58 [.t 12]), .s 3 5 13, .i 6 (.mov (.c (.one (.st (.bool true)))))]) .ret) .skip)) (.seq (.ops [.l 15 2, .m 16 0, .l 17 1, .i 18 (.bin .sub (.t 16) (.t 17)), .i 19 (.lookup (some (Go.Proofs.YtcgnojefbalbbaaDoor.KK.int .i64)) true (.one (.st (.int .i64 0))) (.t 15) (.t 18)), .m 14 19, .i 20 (.extract 0 (.t 14)), .i 21 (.extract 1 (.t 14)), .m 7 20, .m 8 21]) (.seq (.ops [.l 22 1, .l 23 3, .i 24 (.bin .add (.t 22) (.t 23)), .i 25 (.bin .sub (.t 24) (.n 1)), .m 26 7, .i 27 (.bin .sub (.t 25) (.t 26)), .i 28 (.call 58 [.t 27]), .m 29 8, .s 3 5 28, .m 6 29]) .ret))))
theorem Bz : OkF Tryd.prog 74 30 [] BO [.cell 5 true 3, .t 6] := .of Tryd.func74 rfl rfl (by kernel_rfl) rfl
def BT : IR :=
 (.seq (.ops [.i 8 (.box 48 (.t 2)), .i 9 (.box 3 (.t 3)), .i 10 (.box 24 (.t 4)), .i 11 (.box 3 (.t 5)), .i 12 (.alloc 24 [.st (.int .i64 0), .st (.int .i64 0), .full []]), .i 13 (.mov (.c (.one (.st (.bool false)))))]) (.seq (.ops [.m 36 0, .L 37 3 10, .i 38 (.callR 34 [.t 36, .t 37]), .s 3 10 38]) (.seq (.seq (.ops [.f 39 0 10, .l 40 39, .i 41 (.bin .eql (.t 40) (.n 2))]) (.cond (.t 41) (.seq (.ops [.m 43 0, .m 44 1, .l 45 8, .l 46 9, .f 47 2 10, .l 48 47, .i 49 (.indexAddr 3 (.t 48) (.n 0)), .L 50 3 49, .l 51 11, .i 52 (.bin .add (.t 51) (.n 1)), .i 53 (.callW 63 [.t 43, .t 44, .t 45, .t 46, .t 50, .t 52]), .m 42 53, .i 54 (.extract 0 (.t 42)), .i 55 (.extract 1 (.t 42)), .i 14 (.alloc 24 [.st (.int .i64 0), .st (.int .i64 0), .full []]), .s 3 14 54, .m 15 55]) (.seq (.ops [.L 56 3 14, .i 57 (.call 73 [.t 56]), .m 58 15, .s 3 12 57, .m 13 58]) .ret)) .skip)) (.seq (.ops [.i 59 (.makeFunc 74 [.t 11, .t 8, .t 9]), .m 16 59]) (.seq (.ops [.L 61 3 10, .i 62 (.call 36 [.t 61]), .m 60 62, .i 63 (.extract 0 (.t 60)), .i 64 (.extract 1 (.t 60)), .i 17 (.alloc 24 [.st (.int .i64 0), .st (.int .i64 0), .full []]), .s 3 17 63, .m 18 64]) (.seq (.seq (.ops [.f 65 0 17, .l 66 65, .i 67 (.bin .eql (.t 66) (.n 5))]) (.cond (.t 67) (.seq (.seq (.ops [.f 68 1 17, .l 69 68, .m 70 1, .i 71 (.bin .eql (.t 69) (.t 70))]) (.cond (.t 71) (.seq (.ops [.L 72 3 10, .s 3 12 72, .i 13 (.mov (.c (.one (.st (.bool false)))))]) .ret) .skip)) (.seq (.ops [.i 19 (.mov (.c (.one (.full []))))]) (.seq (.seq (.ops [.m 73 18, .i 74 (.len false (.t 73)), .i 75 (.mov (.n 0))]) (.block 0 (.loop (.seq (.ops [.i 76 (.bin .lss (.t 75) (.t 74))]) (.seq (.cond (.t 76) .skip (.exit 0)) (.seq (.block 1 (.seq (.ops [.m 77 75, .i 78 (.indexAddr 3 (.t 73) (.t 75)), .L 79 3 78, .i 21 (.alloc 24 [.st (.int .i64 0), .st (.int .i64 0), .full []]), .m 20 77, .s 3 21 79]) (.seq (.ops [.m 81 16, .f 82 1 21, .l 83 82, .i 84 (.callV (.t 81) [.t 83]), .m 80 84, .i 85 (.extract 0 (.t 80)), .i 86 (.extract 1 (.t 80)), .i 22 (.alloc 24 [.st (.int .i64 0), .st (.int .i64 0), .full []]), .s 3 22 85, .m 23 86]) (.seq (.ops [.m 87 23]) (.cond (.t 87) (.ops [.m 88 19, .m 89 20, .i 90 (.buildFlat [.t 89]), .i 91 (.append false 3 1 8 (.t 88) (.t 90)), .m 19 91]) .skip))))) (.ops [.i 92 (.bin .add (.t 75) (.n 1)), .m 75 92]))))))) (.seq (.seq (.ops [.m 93 19, .i 94 (.len false (.t 93)), .m 95 18, .i 96 (.len false (.t 95)), .i 97 (.bin .lss (.t 94) (.t 96))]) (.cond (.t 97) (.seq (.ops [.m 98 0, .i 99 (.callX 60 [.t 98]), .i 24 (.alloc 24 [.st (.int .i64 0), .st (.int .i64 0), .full []]), .s 3 24 99]) (.seq (.ops [.m 100 0, .i 101 (.nilCheck (.t 100)), .f 102 0 101, .l 103 102, .f 104 1 17, .l 105 104, .L 106 3 24, .m 107 19, .m 108 18, .i 109 (.len false (.t 108)), .i 110 (.call 62 [.t 107, .t 109]), .i 111 (.call 55 [.t 106, .t 110]), .m 112 18, .i 113 (.len false (.t 112)), .i 114 (.call 61 [.t 111, .t 113]), .i 115 (.indexAddr 3 (.t 103) (.t 105)), .s 3 115 114]) (.ops [.L 116 3 24, .s 3 17 116]))) .skip)) (.seq (.ops [.i 25 (.mov (.c (.one (.full []))))]) (.seq (.seq (.ops [.m 117 19, .i 118 (.len false (.t 117)), .i 119 (.mov (.n 0))]) (.block 2 (.loop (.seq (.ops [.i 120 (.bin .lss (.t 119) (.t 118))]) (.seq (.cond (.t 120) .skip (.exit 2)) (.seq (.block 3 (.seq (.ops [.i 121 (.indexAddr 1 (.t 117) (.t 119)), .l 122 121, .m 27 122]) (.seq (.ops [.m 124 16, .m 125 18, .m 126 27, .i 127 (.indexAddr 3 (.t 125) (.t 126)), .f 128 1 127, .l 129 128, .i 130 (.callV (.t 124) [.t 129]), .m 123 130, .i 131 (.extract 0 (.t 123)), .i 132 (.extract 1 (.t 123)), .i 28 (.alloc 24 [.st (.int .i64 0), .st (.int .i64 0), .full []]), .s 3 28 131, .m 29 132]) (.ops [.m 133 25, .L 134 3 28, .i 135 (.buildSlice false 24 3 [.t 134]), .i 136 (.append false 24 3 40 (.t 133) (.t 135)), .m 25 136])))) (.ops [.i 137 (.bin .add (.t 119) (.n 1)), .m 119 137]))))))) (.seq (.ops [.L 138 3 17, .m 139 25, .i 140 (.call 55 [.t 138, .t 139]), .s 3 12 140, .i 13 (.mov (.c (.one (.st (.bool true)))))]) .ret))))))) .skip)) (.seq (.seq (.ops [.f 141 0 17, .l 142 141, .i 143 (.bin .eql (.t 142) (.n 1))]) (.cond (.t 143) (.seq (.ops [.m 145 16, .f 146 1 17, .l 147 146, .i 148 (.callV (.t 145) [.t 147]), .m 144 148, .i 149 (.extract 0 (.t 144)), .i 150 (.extract 1 (.t 144)), .i 30 (.alloc 24 [.st (.int .i64 0), .st (.int .i64 0), .full []]), .s 3 30 149, .m 31 150]) (.seq (.seq (.ops [.m 151 31, .i 152 (.un .not (.t 151))]) (.cond (.t 152) (.seq (.ops [.L 153 3 10, .s 3 12 153, .i 13 (.mov (.c (.one (.st (.bool false)))))]) .ret) .skip)) (.ops [.L 154 3 30, .s 3 17 154]))) .skip)) (.seq (.seq (.ops [.m 155 18, .i 156 (.len false (.t 155)), .i 157 (.mov (.n 0))]) (.block 4 (.loop (.seq (.ops [.i 158 (.bin .lss (.t 157) (.t 156))]) (.seq (.cond (.t 158) .skip (.exit 4)) (.seq (.block 5 (.seq (.ops [.i 159 (.indexAddr 3 (.t 155) (.t 157)), .L 160 3 159, .i 33 (.alloc 24 [.st (.int .i64 0), .st (.int .i64 0), .full []]), .s 3 33 160]) (.seq (.ops [.m 162 0, .m 163 1, .l 164 8, .l 165 9, .L 166 3 33, .l 167 11, .i 168 (.callX 63 [.t 162, .t 163, .t 164, .t 165, .t 166, .t 167]), .m 161 168, .i 169 (.extract 0 (.t 161)), .i 170 (.extract 1 (.t 161)), .i 34 (.alloc 24 [.st (.int .i64 0), .st (.int .i64 0), .full []]), .s 3 34 169, .m 35 170]) (.seq (.seq (.ops [.m 171 35, .i 172 (.un .not (.t 171))]) (.cond (.t 172) (.seq (.ops [.L 173 3 10, .s 3 12 173, .i 13 (.mov (.c (.one (.st (.bool false)))))]) .ret) .skip)) (.ops [.L 174 3 17, .L 175 3 34, .i 176 (.call 57 [.t 174, .t 175]), .s 3 17 176]))))) (.ops [.i 177 (.bin .add (.t 157) (.n 1)), .m 157 177]))))))) (.seq (.ops [.L 178 3 17, .s 3 12 178, .i 13 (.mov (.c (.one (.st (.bool true)))))]) .ret)))))))))
theorem B4 : OkF Tryd.prog 63 179 [40000038, 50000053, 80000099, 80000168] BT [.cell 12 true 3, .t 13] := .of Tryd.func63 rfl rfl (by kernel_rfl) rfl
def BX : IR :=
 (.seq (.ops [.i 7 (.box 24 (.t 3)), .i 8 (.mov (.c (.one (.st (.bool false)))))]) (.seq (.ops [.i 14 (.makeMap (some (Go.Proofs.YtcgnojefbalbbaaDoor.KK.int .i64))), .m 9 14]) (.seq (.seq (.ops [.m 15 2, .i 16 (.len false (.t 15)), .i 17 (.mov (.n 0))]) (.block 0 (.loop (.seq (.ops [.i 18 (.bin .lss (.t 17) (.t 16))]) (.seq (.cond (.t 18) .skip (.exit 0)) (.seq (.block 1 (.seq (.ops [.m 19 17, .i 20 (.indexAddr 3 (.t 15) (.t 17)), .L 21 3 20, .i 11 (.alloc 24 [.st (.int .i64 0), .st (.int .i64 0), .full []]), .m 10 19, .s 3 11 21]) (.ops [.m 22 9, .f 23 1 11, .l 24 23, .m 25 10, .mk none none (.mapSet (some (Go.Proofs.YtcgnojefbalbbaaDoor.KK.int .i64)) (.t 22) (.t 24) (.t 25)) .no]))) (.ops [.i 26 (.bin .add (.t 17) (.n 1)), .m 17 26]))))))) (.seq (.ops [.m 28 0, .m 29 1, .m 30 9, .m 31 2, .i 32 (.len false (.t 31)), .L 33 3 7, .i 34 (.callW 63 [.t 28, .t 29, .t 30, .t 32, .t 33, .n 0]), .m 27 34, .i 35 (.extract 0 (.t 27)), .i 36 (.extract 1 (.t 27)), .i 12 (.alloc 24 [.st (.int .i64 0), .st (.int .i64 0), .full []]), .s 3 12 35, .m 13 36]) (.seq (.seq (.ops [.m 37 13]) (.cond (.t 37) (.ops [.m 38 0, .i 39 (.nilCheck (.t 38)), .f 40 0 39, .l 41 40, .m 42 1, .L 43 3 12, .m 44 2, .i 45 (.len false (.t 44)), .i 46 (.call 61 [.t 43, .t 45]), .i 47 (.indexAddr 3 (.t 41) (.t 42)), .s 3 47 46]) .skip)) (.seq (.ops [.m 48 13, .m 8 48]) .ret))))))
theorem B_ : OkF Tryd.prog 38 49 [50000034] BX [.t 8] := .of Tryd.func38 rfl rfl (by kernel_rfl) rfl
def BV : IR :=
 (.seq (.ops [.i 4 (.box 24 (.t 1)), .i 5 (.box 24 (.t 2)), .i 6 (.mov (.c (.one (.st (.bool false)))))]) (.seq (.ops [.m 12 0, .L 13 3 4, .i 14 (.callR 34 [.t 12, .t 13]), .m 15 0, .L 16 3 5, .i 17 (.callR 34 [.t 15, .t 16]), .s 3 4 14, .s 3 5 17]) (.seq (.seq (.ops [.f 18 0 4, .l 19 18, .i 20 (.bin .eql (.t 19) (.n 2)), .m 21 20, .mk (some 22) (some (21, false)) (.fieldAddr 0 (.t 5)) .no, .mk (some 23) (some (21, false)) (.load false 1 (.t 22)) .no, .mk (some 24) (some (21, false)) (.bin .eql (.t 23) (.n 2)) .no, .i 25 (.pick (.t 21) (.c (.one (.st (.bool true)))) (.t 24))]) (.cond (.t 25) (.seq (.ops [.m 26 0, .L 27 3 4, .i 28 (.call 35 [.t 27]), .L 29 3 5, .i 30 (.call 35 [.t 29]), .i 31 (.callX 18 [.t 26, .t 28, .t 30]), .m 6 31]) .ret) .skip)) (.seq (.ops [.L 33 3 4, .i 34 (.call 36 [.t 33]), .m 32 34, .i 35 (.extract 0 (.t 32)), .i 36 (.extract 1 (.t 32)), .i 7 (.alloc 24 [.st (.int .i64 0), .st (.int .i64 0), .full []]), .s 3 7 35, .m 8 36]) (.seq (.ops [.L 38 3 5, .i 39 (.call 36 [.t 38]), .m 37 39, .i 40 (.extract 0 (.t 37)), .i 41 (.extract 1 (.t 37)), .i 9 (.alloc 24 [.st (.int .i64 0), .st (.int .i64 0), .full []]), .s 3 9 40, .m 10 41]) (.seq (.block 0 (.seq (.ops [.f 43 0 7, .l 44 43, .i 45 (.bin .eql (.t 44) (.n 5)), .m 46 45, .mk (some 47) (some (46, true)) (.fieldAddr 0 (.t 9)) .no, .mk (some 48) (some (46, true)) (.load false 1 (.t 47)) .no, .mk (some 49) (some (46, true)) (.bin .eql (.t 48) (.n 5)) .no, .i 50 (.pick (.t 46) (.t 49) (.c (.one (.st (.bool false))))), .m 51 50, .mk (some 52) (some (51, true)) (.fieldAddr 1 (.t 7)) .no, .mk (some 53) (some (51, true)) (.load false 1 (.t 52)) .no, .mk (some 54) (some (51, true)) (.fieldAddr 1 (.t 9)) .no, .mk (some 55) (some (51, true)) (.load false 1 (.t 54)) .no, .mk (some 56) (some (51, true)) (.bin .eql (.t 53) (.t 55)) .no, .i 57 (.pick (.t 51) (.t 56) (.c (.one (.st (.bool false))))), .m 42 57]) (.cond (.t 42) (.seq (.ops [.m 58 0, .f 59 1 7, .l 60 59, .m 61 8, .m 62 10, .i 63 (.callW 37 [.t 58, .t 60, .t 61, .t 62]), .m 6 63]) .ret) (.seq (.ops [.f 65 0 7, .l 66 65, .i 67 (.bin .eql (.t 66) (.n 5)), .m 64 67]) (.cond (.t 64) (.seq (.ops [.m 68 0, .f 69 1 7, .l 70 69, .m 71 8, .L 72 3 5, .i 73 (.callX 38 [.t 68, .t 70, .t 71, .t 72]), .m 6 73]) .ret) (.seq (.ops [.f 75 0 9, .l 76 75, .i 77 (.bin .eql (.t 76) (.n 5)), .m 74 77]) (.cond (.t 74) (.seq (.ops [.m 78 0, .f 79 1 9, .l 80 79, .m 81 10, .L 82 3 4, .i 83 (.callX 38 [.t 78, .t 80, .t 81, .t 82]), .m 6 83]) .ret) .skip))))))) (.seq (.seq (.ops [.f 84 0 7, .l 85 84, .f 86 0 9, .l 87 86, .i 88 (.bin .neq (.t 85) (.t 87)), .m 89 88, .mk (some 90) (some (89, false)) (.fieldAddr 1 (.t 7)) .no, .mk (some 91) (some (89, false)) (.load false 1 (.t 90)) .no, .mk (some 92) (some (89, false)) (.fieldAddr 1 (.t 9)) .no, .mk (some 93) (some (89, false)) (.load false 1 (.t 92)) .no, .mk (some 94) (some (89, false)) (.bin .neq (.t 91) (.t 93)) .no, .i 95 (.pick (.t 89) (.c (.one (.st (.bool true)))) (.t 94)), .m 96 95, .mk (some 97) (some (96, false)) (.mov (.t 8)) .no, .mk (some 98) (some (96, false)) (.len false (.t 97)) .no, .mk (some 99) (some (96, false)) (.mov (.t 10)) .no, .mk (some 100) (some (96, false)) (.len false (.t 99)) .no, .mk (some 101) (some (96, false)) (.bin .neq (.t 98) (.t 100)) .no, .i 102 (.pick (.t 96) (.c (.one (.st (.bool true)))) (.t 101))]) (.cond (.t 102) (.seq (.ops [.i 6 (.mov (.c (.one (.st (.bool false)))))]) .ret) .skip)) (.seq (.seq (.ops [.m 103 8, .i 104 (.len false (.t 103)), .i 105 (.mov (.n 0))]) (.block 1 (.loop (.seq (.ops [.i 106 (.bin .lss (.t 105) (.t 104))]) (.seq (.cond (.t 106) .skip (.exit 1)) (.seq (.block 2 (.seq (.ops [.m 107 105, .m 11 107]) (.seq (.ops [.m 108 0, .m 109 8, .m 110 11, .i 111 (.indexAddr 3 (.t 109) (.t 110)), .L 112 3 111, .m 113 10, .m 114 11, .i 115 (.indexAddr 3 (.t 113) (.t 114)), .L 116 3 115, .i 117 (.callX 18 [.t 108, .t 112, .t 116]), .i 118 (.un .not (.t 117))]) (.cond (.t 118) (.seq (.ops [.i 6 (.mov (.c (.one (.st (.bool false)))))]) .ret) .skip)))) (.ops [.i 119 (.bin .add (.t 105) (.n 1)), .m 105 119]))))))) (.seq (.ops [.i 6 (.mov (.c (.one (.st (.bool true)))))]) .ret)))))))))
theorem B8 : OkF Tryd.prog 18 120 [40000014, 40000017, 80000031, 50000063, 80000073, 80000083, 80000117] BV [.t 6] := .of Tryd.func18 rfl rfl (by kernel_rfl) rfl
def BP : IR :=
 (.seq (.ops [.i 3 (.box 24 (.t 1)), .i 4 (.alloc 24 [.st (.int .i64 0), .st (.int .i64 0), .full []])]) (.seq (.ops [.m 8 0, .L 9 3 3, .i 10 (.callR 34 [.t 8, .t 9]), .s 3 3 10]) (.seq (.ops [.f 11 0 3, .l 12 11, .f 13 1 3, .l 14 13, .i 15 (.build [.st (.int .i64 0), .st (.int .i64 0), .full []] [(0, 1, .t 12), (1, 1, .t 14)]), .i 5 (.alloc 24 [.st (.int .i64 0), .st (.int .i64 0), .full []]), .s 3 5 15]) (.seq (.seq (.ops [.f 16 2 3, .l 17 16, .i 18 (.len false (.t 17)), .i 19 (.mov (.n 0))]) (.block 0 (.loop (.seq (.ops [.i 20 (.bin .lss (.t 19) (.t 18))]) (.seq (.cond (.t 20) .skip (.exit 0)) (.seq (.block 1 (.seq (.ops [.i 21 (.indexAddr 3 (.t 17) (.t 19)), .L 22 3 21, .i 7 (.alloc 24 [.st (.int .i64 0), .st (.int .i64 0), .full []]), .s 3 7 22]) (.ops [.f 23 2 5, .l 24 23, .m 25 0, .L 26 3 7, .i 27 (.callR 21 [.t 25, .t 26]), .i 28 (.buildSlice false 24 3 [.t 27]), .i 29 (.append false 24 3 40 (.t 24) (.t 28)), .f 30 2 5, .s 1 30 29]))) (.ops [.i 31 (.bin .add (.t 19) (.n 1)), .m 19 31]))))))) (.seq (.ops [.L 32 3 5, .s 3 4 32]) .ret)))))
theorem B1 : OkF Tryd.prog 21 33 [40000010, 40000027] BP [.cell 4 true 3] := .of Tryd.func21 rfl rfl (by kernel_rfl) rfl
def DD : IR :=
 (.seq (.ops [.i 2 (.box 24 (.t 0)), .i 4 (.alloc 24 [.st (.int .i64 0), .st (.int .i64 0), .full []])]) (.seq (.ops [.f 10 0 2, .l 11 10, .f 12 1 2, .l 13 12, .i 14 (.build [.st (.int .i64 0), .st (.int .i64 0), .full []] [(0, 1, .t 11), (1, 1, .t 13)]), .i 5 (.alloc 24 [.st (.int .i64 0), .st (.int .i64 0), .full []]), .s 3 5 14]) (.seq (.seq (.ops [.f 15 0 2, .l 16 15, .i 17 (.bin .eql (.t 16) (.n 5))]) (.cond (.t 17) (.seq (.seq (.ops [.m 19 1, .f 20 1 2, .l 21 20, .i 22 (.lookup (some (Go.Proofs.YtcgnojefbalbbaaDoor.KK.int .i64)) true (.one (.st (.int .i64 0))) (.t 19) (.t 21)), .m 18 22, .i 23 (.extract 0 (.t 18)), .i 24 (.extract 1 (.t 18)), .m 6 23, .m 7 24]) (.seq (.ops [.m 25 7, .i 26 (.un .not (.t 25))]) (.cond (.t 26) (.ops [.m 27 1, .f 28 1 2, .l 29 28, .m 30 1, .i 31 (.lenM (.t 30)), .mk none none (.mapSet (some (Go.Proofs.YtcgnojefbalbbaaDoor.KK.int .i64)) (.t 27) (.t 29) (.t 31)) .no]) .skip))) (.ops [.m 32 1, .f 33 1 2, .l 34 33, .i 35 (.lookup (some (Go.Proofs.YtcgnojefbalbbaaDoor.KK.int .i64)) false (.one (.st (.int .i64 0))) (.t 32) (.t 34)), .f 36 1 5, .s 1 36 35])) .skip)) (.seq (.seq (.ops [.f 37 2 2, .l 38 37, .i 39 (.len false (.t 38)), .i 40 (.mov (.n 0))]) (.block 0 (.loop (.seq (.ops [.i 41 (.bin .lss (.t 40) (.t 39))]) (.seq (.cond (.t 41) .skip (.exit 0)) (.seq (.block 1 (.seq (.ops [.i 42 (.indexAddr 3 (.t 38) (.t 40)), .L 43 3 42, .i 9 (.alloc 24 [.st (.int .i64 0), .st (.int .i64 0), .full []]), .s 3 9 43]) (.ops [.mk (some 44) none (.fieldAddr 2 (.t 5)) (.onb 5), .mk (some 45) none (.load false 1 (.t 44)) (.onb 5), .L 46 3 9, .m 47 1, .mk (some 48) none (.callS 19 [.t 46, .t 47]) (.keeps [5, 5]), .i 49 (.buildSlice false 24 3 [.t 48]), .i 50 (.append false 24 3 40 (.t 45) (.t 49)), .f 51 2 5, .s 1 51 50]))) (.ops [.i 52 (.bin .add (.t 40) (.n 1)), .m 40 52]))))))) (.seq (.ops [.L 53 3 5, .s 3 4 53]) .ret)))))
theorem FI : OkF Tryd.prog 19 54 [48] DD [.cell 4 true 3] := .of Tryd.func19 rfl rfl (by kernel_rfl) rfl

def Fe : IR :=
 (.seq (.ops [.i 2 (.alloc 24 [.st (.int .i64 0), .st (.int .i64 0), .full []])]) (.seq (.ops [.m 3 0, .i 4 (.build [.st (.int .i64 0), .st (.int .i64 0), .full []] [(0, 1, .n 5), (1, 1, .t 3)]), .s 3 2 4]) .ret))
theorem Ix : OkF Tryd.prog 22 5 [] Fe [.cell 2 true 3] := .of Tryd.func22 rfl rfl (by kernel_rfl) rfl
def EJ : IR :=
 (.seq (.ops [.i 2 (.box 24 (.t 0)), .i 4 (.alloc 24 [.st (.int .i64 0), .st (.int .i64 0), .full []])]) (.seq (.seq (.ops [.m 7 1, .i 8 (.len false (.t 7)), .i 9 (.mov (.n 0))]) (.block 0 (.loop (.seq (.ops [.i 10 (.bin .lss (.t 9) (.t 8))]) (.seq (.cond (.t 10) .skip (.exit 0)) (.seq (.block 1 (.seq (.ops [.i 11 (.indexAddr 3 (.t 7) (.t 9)), .L 12 3 11, .i 6 (.alloc 24 [.st (.int .i64 0), .st (.int .i64 0), .full []]), .s 3 6 12]) (.ops [.L 13 3 2, .L 14 3 6, .i 15 (.call 57 [.t 13, .t 14]), .s 3 2 15]))) (.ops [.i 16 (.bin .add (.t 9) (.n 1)), .m 9 16]))))))) (.seq (.ops [.L 17 3 2, .s 3 4 17]) .ret)))
theorem Gk : OkF Tryd.prog 71 18 [] EJ [.cell 4 true 3] := .of Tryd.func71 rfl rfl (by kernel_rfl) rfl
def EH : IR :=
 (.seq (.ops [.i 2 (.box 24 (.t 0)), .i 4 (.alloc 24 [.st (.int .i64 0), .st (.int .i64 0), .full []])]) (.seq (.ops [.L 5 3 2, .m 6 1, .i 7 (.call 71 [.t 5, .t 6]), .s 3 4 7]) .ret))
theorem Gp : OkF Tryd.prog 55 8 [] EH [.cell 4 true 3] := .of Tryd.func55 rfl rfl (by kernel_rfl) rfl
def Cm : IR :=
 (.seq (.ops [.i 2 (.box 24 (.t 0)), .i 4 (.alloc 24 [.st (.int .i64 0), .st (.int .i64 0), .full []])]) (.seq (.seq (.ops [.m 5 1, .i 6 (.mov (.n 0))]) (.block 0 (.loop (.seq (.ops [.i 7 (.bin .lss (.t 6) (.t 5))]) (.seq (.cond (.t 7) .skip (.exit 0)) (.seq (.block 1 (.ops [.L 8 3 2, .i 9 (.call 73 [.t 8]), .s 3 2 9])) (.ops [.i 10 (.bin .add (.t 6) (.n 1)), .m 6 10]))))))) (.seq (.ops [.L 11 3 2, .s 3 4 11]) .ret)))
theorem Ey : OkF Tryd.prog 61 12 [] Cm [.cell 4 true 3] := .of Tryd.func61 rfl rfl (by kernel_rfl) rfl
def Cr : IR :=
 (.seq (.ops [.i 4 (.mov (.c (.one (.full []))))]) (.seq (.ops [.i 5 (.mov (.c (.one (.full []))))]) (.seq (.seq (.ops [.m 8 0, .i 9 (.len false (.t 8)), .i 10 (.mov (.n 0))]) (.block 0 (.loop (.seq (.ops [.i 11 (.bin .lss (.t 10) (.t 9))]) (.seq (.cond (.t 11) .skip (.exit 0)) (.seq (.block 1 (.seq (.ops [.i 12 (.indexAddr 1 (.t 8) (.t 10)), .l 13 12, .m 7 13]) (.ops [.m 14 5, .m 15 1, .i 16 (.bin .sub (.t 15) (.n 1)), .m 17 7, .i 18 (.bin .sub (.t 16) (.t 17)), .i 19 (.call 58 [.t 18]), .i 20 (.buildSlice false 24 3 [.t 19]), .i 21 (.append false 24 3 40 (.t 14) (.t 20)), .m 5 21]))) (.ops [.i 22 (.bin .add (.t 10) (.n 1)), .m 10 22]))))))) (.seq (.ops [.m 23 5, .m 4 23]) .ret))))
theorem Et : OkF Tryd.prog 62 24 [] Cr [.t 4] := .of Tryd.func62 rfl rfl (by kernel_rfl) rfl
def Aq : IR :=
 (.seq (.ops [.m 4 0, .i 5 (.len false (.t 4)), .i 6 (.bin .sub (.t 5) (.n 1)), .i 2 (.mov (.n 0)), .m 3 6]) (.block 0 (.loop (.seq (.seq (.ops [.m 7 2, .m 8 3, .i 9 (.bin .lss (.t 7) (.t 8))]) (.cond (.t 9) .skip (.exit 0))) (.seq (.block 1 (.ops [.m 14 0, .m 15 2, .m 16 0, .m 17 3, .m 18 0, .m 19 3, .i 20 (.indexAddr 3 (.t 18) (.t 19)), .L 21 3 20, .m 22 0, .m 23 2, .i 24 (.indexAddr 3 (.t 22) (.t 23)), .L 25 3 24, .i 26 (.indexAddr 3 (.t 14) (.t 15)), .s 3 26 21, .i 27 (.indexAddr 3 (.t 16) (.t 17)), .s 3 27 25])) (.ops [.m 10 2, .i 11 (.bin .add (.t 10) (.n 1)), .m 12 3, .i 13 (.bin .sub (.t 12) (.n 1)), .m 2 11, .m 3 13]))))))
theorem BJ : OkF Tryd.prog 59 28 [] Aq [] := .of Tryd.func59 rfl rfl (by kernel_rfl) rfl
def Cl : IR :=
 (.seq (.ops [.i 1 (.box 24 (.t 0)), .i 2 (.alloc 24 [.st (.int .i64 0), .st (.int .i64 0), .full []]), .i 3 (.mov (.c (.one (.full []))))]) (.seq (.ops [.i 4 (.mov (.c (.one (.full []))))]) (.seq (.block 0 (.loop (.seq (.seq (.ops [.f 5 0 1, .l 6 5, .i 7 (.bin .eql (.t 6) (.n 3))]) (.cond (.t 7) .skip (.exit 0))) (.block 1 (.seq (.ops [.m 8 4, .f 9 2 1, .l 10 9, .i 11 (.indexAddr 3 (.t 10) (.n 1)), .L 12 3 11, .i 13 (.buildSlice false 24 3 [.t 12]), .i 14 (.append true 24 3 40 (.t 8) (.t 13)), .m 4 14]) (.ops [.f 15 2 1, .l 16 15, .i 17 (.indexAddr 3 (.t 16) (.n 0)), .L 18 3 17, .s 3 1 18])))))) (.seq (.ops [.m 19 4, .i 20 (.callW 59 [.t 19])]) (.seq (.ops [.L 21 3 1, .m 22 4, .s 3 2 21, .m 3 22]) .ret)))))
theorem EZ : OkF Tryd.prog 36 23 [14, 50000020] Cl [.cell 2 true 3, .t 3] := .of Tryd.func36 rfl rfl (by kernel_rfl) rfl
def Dc : IR :=
 (.seq (.ops [.i 1 (.box 24 (.t 0)), .i 2 (.alloc 24 [.st (.int .i64 0), .st (.int .i64 0), .full []])]) (.seq (.seq (.ops [.f 3 0 1, .l 4 3, .i 5 (.bin .eql (.t 4) (.n 2))]) (.cond (.t 5) (.seq (.ops [.f 6 2 1, .l 7 6, .i 8 (.indexAddr 3 (.t 7) (.n 0)), .L 9 3 8, .s 3 2 9]) .ret) .skip)) (.seq (.ops [.L 10 3 1, .i 11 (.call 40 [.t 10, .n 1, .n 0]), .i 12 (.call 58 [.n 0]), .i 13 (.call 57 [.t 11, .t 12]), .s 3 2 13]) .ret)))
theorem Fj : OkF Tryd.prog 35 14 [] Dc [.cell 2 true 3] := .of Tryd.func35 rfl rfl (by kernel_rfl) rfl

set_option maxHeartbeats 2000000
abbrev Bp (t : Lm) : AF := .box 24 [.st (.int .i64 t.kind), .st (.int .i64 t.idx), .st (.list (t.subs.map Af))]
theorem N_ (u x : Lm) : Bp (Lm.mk 3 0 [u, x]) = .box 24 [.st (.int .i64 3), .st (.int .i64 0), .st (.list [[.int .i64 u.kind, .int .i64 u.idx, .list (u.subs.map Af)], [.int .i64 x.kind, .int .i64 x.idx, .list (x.subs.map Af)]])] := by
 simp [Bp, Lm.kind_mk, Lm.idx_mk, Lm.subs_mk, AD]
theorem N6 (u : Lm) : Bp (Lm.l u) = .box 24 [.st (.int .i64 2), .st (.int .i64 0), .st (.list [[.int .i64 u.kind, .int .i64 u.idx, .list (u.subs.map Af)]])] := by
 simp [Bp, Lm.l, Lm.kind_mk, Lm.idx_mk, Lm.subs_mk, AD]
theorem N5 (i : Int) : Ak Tryd.prog 22 [AQ i] (aLm (mU i)) := by
 refine Ix.ac fun C hC => ?_
 unfold Fe
 repeat' with_reducible first | refine W ?_ | refine Z0 ?_ | ((first | refine Wo fun K hK => ?_ | refine Wp ?_ | refine Wq ?_ | refine Wr ?_); (try simp only [go_sem, fN, seval, eT, iR, dT, dF, nL]); (repeat refine Ai ?_); (try (refine hK _ ?_; clear hK K)); try refine iC ?_)
 simp only [go_sem, fN, seval, Ap, AS.result, AG, AH, AY]
 simp [mU, Lm.kind_mk, Lm.idx_mk, Lm.subs_mk]
theorem Nv (t : Lm) (l : List Lm) : Ak Tryd.prog 71 [aLm t, BI l] (aLm (C1 t l)) := by
 refine Gk.ac fun C hC => ?_
 unfold EJ
 refine IWP.learn 1 (by omega) fun hkn => ?_
 have hln := Cb hkn
 repeat' with_reducible first | refine W ?_ | refine Z0 ?_ | ((first | refine Wo fun K hK => ?_ | refine Wp ?_ | refine Wq ?_ | refine Wr ?_); (try simp only [go_sem, fN, seval, eT, iR, dT, dF, nL]); (repeat refine Ai ?_); (try (refine hK _ ?_; clear hK K)); try refine iC ?_)
 refine IWP.loopD [6] (fun q s => ∃ k, k ≤ l.length ∧ q = l.length - k ∧ s.env 2 = .one (.ptr 2 1 0 0) ∧ s.env 4 = .one (.ptr 4 1 0 0) ∧ s.env 7 = BI l ∧ s.env 8 = AQ l.length ∧ s.env 9 = AQ k ∧ s.S 2 = some (Bp (C1 t (l.take k))) ∧ s.S 4 = some (.box 24 [.st (.int .i64 0), .st (.int .i64 0), .full []]) ∧ s.S 6 = none) l.length
  ⟨0, Nat.zero_le _, rfl, rfl, rfl, rfl, by simp only [go_sem, fN, seval, eT, iR], rfl, rfl, rfl, rfl⟩ ?_
 rintro q ⟨env, S⟩ ⟨k, hk, rfl, e2, e4, e7, e8, e9, s2, s4, s6⟩
 simp only at e2 e4 e7 e8 e9 s2 s4 s6
 have hll : (l.map Af).length = l.length := List.length_map _
 by_cases hlt : (k : Int) < l.length
 ·obtain ⟨x, hx⟩ := A1 (show k < l.length by omega)
  have hsn : C1 t (l.take (k + 1)) = Lm.a (C1 t (l.take k)) x := by rw [A9 hx]; unfold C1; rw [List.foldl_append]; rfl
  generalize C1 t (l.take k) = u at *
  repeat' (first | (with_reducible first | refine W ?_ | refine Z0 ?_ | ((first | refine Wo fun K hK => ?_ | refine Wp ?_ | refine Wq ?_ | refine Wr ?_); (try simp only [go_sem, fN, seval, eT, iR, e2, e4, e7, e8, e9, s2, s4, s6, hlt, hx, hll, AD, dT, dF, nL]); (repeat refine Ai ?_); (try (refine hK _ ?_; clear hK K)); try refine iC ?_)) | refine Cg _ (Nl u x) ?_)
  refine AO ⟨l.length - (k + 1), by omega, k + 1, by omega, rfl, ?_⟩
  rw [hsn]
  simp only [go_sem, fN, seval, AS.drop, AJ, AC.clears, AC.clear, AC.highs, AC.high, Bool.not_false, Bool.true_and, Bool.and_self, AV.purge, AV.purges, AC.purge, AF.purge, List.contains_cons, List.contains_nil, Nat.reduceBEq, Bool.or_self, Bool.or_false, Bool.false_or, Bool.or_true, eT, iR, e2, e4, e7, e8, e9, s2, s4, Lm.a, Lm.kind_mk, Lm.idx_mk, Lm.subs_mk]
  exact ⟨rfl, (N_ u x).symm⟩
 ·have hke : k = l.length := by omega
  rw [hke, List.take_length] at s2
  generalize C1 t l = u at *
  repeat' with_reducible first | refine W ?_ | refine Z0 ?_ | ((first | refine Wo fun K hK => ?_ | refine Wp ?_ | refine Wq ?_ | refine Wr ?_); (try simp only [go_sem, fN, seval, eT, iR, e2, e4, e7, e8, e9, s2, s4, hlt, dT, dF, nL]); (repeat refine Ai ?_); (try (refine hK _ ?_; clear hK K)); try refine iC ?_)
  simp only [go_sem, fN, seval, Ap, AS.result, AG, AH, AY, e4]
theorem GB (t : Lm) (l : List Lm) : Ak Tryd.prog 55 [aLm t, BI l] (aLm (C1 t l)) := by
 have h := Nv t l
 generalize C1 t l = u at *
 refine Gp.ac fun C hC => ?_
 unfold EH
 repeat' (first | (with_reducible first | refine W ?_ | refine Z0 ?_ | ((first | refine Wo fun K hK => ?_ | refine Wp ?_ | refine Wq ?_ | refine Wr ?_); (try simp only [go_sem, fN, seval, eT, iR, dT, dF, nL]); (repeat refine Ai ?_); (try (refine hK _ ?_; clear hK K)); try refine iC ?_)) | refine Cg _ (h) ?_)
 simp only [go_sem, fN, seval, Ap, AS.result, AG, AH, AY]
theorem FH (b : Lm) (n : Nat) (hn : n ≤ 1000) : Ak Tryd.prog 61 [aLm b, AQ n] (aLm (Bn b n)) := by
 refine Ey.ac fun C hC => ?_
 unfold Cm
 repeat' with_reducible first | refine W ?_ | refine Z0 ?_ | ((first | refine Wo fun K hK => ?_ | refine Wp ?_ | refine Wq ?_ | refine Wr ?_); (try simp only [go_sem, fN, seval, eT, iR, dT, dF, nL]); (repeat refine Ai ?_); (try (refine hK _ ?_; clear hK K)); try refine iC ?_)
 refine IWP.loop (fun q s => ∃ k, k ≤ n ∧ q = n - k ∧ s.env 2 = .one (.ptr 2 1 0 0) ∧ s.env 4 = .one (.ptr 4 1 0 0) ∧ s.env 5 = AQ n ∧ s.env 6 = AQ k ∧ s.S 2 = some (Bp (Bn b k)) ∧ s.S 4 = some (.box 24 [.st (.int .i64 0), .st (.int .i64 0), .full []])) n
  ⟨0, Nat.zero_le _, rfl, rfl, rfl, rfl, rfl, rfl, rfl⟩ ?_
 rintro q ⟨env, S⟩ ⟨k, hk, rfl, e2, e4, e5, e6, s2, s4⟩
 simp only at e2 e4 e5 e6 s2 s4
 by_cases hlt : (k : Int) < n
 ·have hsn : Bn b (k + 1) = Lm.l (Bn b k) := rfl
  generalize Bn b k = u at *
  repeat' (first | (with_reducible first | refine W ?_ | refine Z0 ?_ | ((first | refine Wo fun K hK => ?_ | refine Wp ?_ | refine Wq ?_ | refine Wr ?_); (try simp only [go_sem, fN, seval, eT, iR, e2, e4, e5, e6, s2, s4, hlt, AD, dT, dF, nL]); (repeat refine Ai ?_); (try (refine hK _ ?_; clear hK K)); try refine iC ?_)) | refine Cg _ (N7 u) ?_)
  refine AO ⟨n - (k + 1), by omega, k + 1, by omega, rfl, e2, e4, e5, rfl, ?_, s4⟩
  rw [hsn, N6]
  simp only [go_sem, fN, seval, eT, iR, Lm.l, Lm.kind_mk, Lm.idx_mk, Lm.subs_mk, AD]
 ·have hke : k = n := by omega
  subst hke
  generalize Bn b k = u at *
  repeat' with_reducible first | refine W ?_ | refine Z0 ?_ | ((first | refine Wo fun K hK => ?_ | refine Wp ?_ | refine Wq ?_ | refine Wr ?_); (try simp only [go_sem, fN, seval, eT, iR, e2, e4, e5, e6, s2, s4, hlt, dT, dF, nL]); (repeat refine Ai ?_); (try (refine hK _ ?_; clear hK K)); try refine iC ?_)
  simp only [go_sem, fN, seval, Ap, AS.result, AG, AH, AY, e4]
theorem G5 (l : List Int) (n : Int) (hn : 0 ≤ n ∧ n ≤ 1000) (hl : ∀ i ∈ l, 0 ≤ i ∧ i ≤ 1000) (hz : l.length ≤ 1000) : Ak Tryd.prog 62 [NV l, AQ n] (BI (CO l n)) := by
 refine Et.ac fun C hC => ?_
 unfold Cr
 refine IWP.learn 0 (by omega) fun hkn => ?_
 have hln := Cb hkn
 repeat' with_reducible first | refine W ?_ | refine Z0 ?_ | ((first | refine Wo fun K hK => ?_ | refine Wp ?_ | refine Wq ?_ | refine Wr ?_); (try simp only [go_sem, fN, seval, eT, iR, dT, dF, nL]); (repeat refine Ai ?_); (try (refine hK _ ?_; clear hK K)); try refine iC ?_)
 refine IWP.ghost (Ar.own 5 50 24 3 (xs := ([] : List (List SV))) rfl rfl (by simp) (by omega)) ?_
 refine IWP.loop (fun q s => ∃ k, k ≤ l.length ∧ q = l.length - k ∧ s.env 1 = AQ n ∧ s.env 8 = NV l ∧ s.env 9 = AQ l.length ∧ s.env 10 = AQ k ∧ s.env 5 = .one (.row 50 k) ∧ s.S 50 = some (.arow 24 3 ((CO (l.take k) n).map Af))) l.length
  ⟨0, Nat.zero_le _, rfl, rfl, rfl, by simp only [go_sem, fN, seval, eT, iR], rfl, rfl, rfl⟩ ?_
 rintro q ⟨env, S⟩ ⟨k, hk, rfl, e1, e8, e9, e10, e5, s50⟩
 simp only at e1 e8 e9 e10 e5 s50
 have hll : (l.map DQ).length = l.length := List.length_map _
 have hkl : ((CO (l.take k) n).map Af).length = k := by rw [List.length_map]; unfold CO; rw [List.length_map, List.length_take]; omega
 by_cases hlt : (k : Int) < l.length
 ·obtain ⟨x, hx⟩ := A1 (show k < l.length by omega)
  obtain ⟨hx1, hx2⟩ := hl x (Ac hx)
  repeat' (first | (with_reducible first | refine W ?_ | refine Z0 ?_ | ((first | refine Wo fun K hK => ?_ | refine Wp ?_ | refine Wq ?_ | refine Wr ?_); (try simp only [go_sem, fN, seval, eT, iR, e1, e8, e9, e10, e5, s50, hlt, hx, hll, hkl, DQ, dT, dF, nL]); (repeat refine Ai ?_); (try (refine hK _ ?_; clear hK K)); try refine iC ?_)) | refine Cg _ (Jd (n - 1 - x)) ?_)
  refine AO ⟨l.length - (k + 1), by omega, k + 1, by omega, rfl, e1, e8, e9, rfl, rfl, ?_⟩
  rw [A9 hx]
  unfold CO
  rw [List.map_append, List.map_append]
  simp only [go_sem, fN, seval, eT, iR, Lm.v, AD]
 ·have hke : k = l.length := by omega
  rw [hke, List.take_length] at s50
  rw [hke] at e5
  rw [hke, List.take_length] at hkl
  repeat' with_reducible first | refine W ?_ | refine Z0 ?_ | ((first | refine Wo fun K hK => ?_ | refine Wp ?_ | refine Wq ?_ | refine Wr ?_); (try simp only [go_sem, fN, seval, eT, iR, e1, e8, e9, e10, e5, s50, hlt, hkl, dT, dF, nL]); (repeat refine Ai ?_); (try (refine hK _ ?_; clear hK K)); try refine iC ?_)
  simp only [go_sem, fN, seval, Ap, AS.result, AG, AH, AY, s50, hkl]
def Df (xs : List (List SV)) (i : Nat) : List (List SV) := (List.range xs.length).map fun p => if p < i ∨ xs.length - i ≤ p then xs.getD (xs.length - 1 - p) [] else xs.getD p []
theorem JL (xs : List (List SV)) (i : Nat) : (Df xs i).length = xs.length := by simp [Df]
theorem KY (xs : List (List SV)) : Df xs 0 = xs := by
 refine List.ext_getElem (JL _ _) fun p h1 h2 => ?_
 simp only [Df, List.getElem_map, List.getElem_range]
 rw [if_neg (by omega), List.getD_eq_getElem?_getD, List.getElem?_eq_getElem h2]
 rfl
theorem Lk {xs : List (List SV)} {i : Nat} (h : xs.length ≤ 2 * i + 1) : Df xs i = xs.reverse := by
 refine List.ext_getElem (by simp [Df]) fun p h1 h2 => ?_
 have hp : p < xs.length := by simpa [Df] using h1
 simp only [Df, List.getElem_map, List.getElem_range, List.getElem_reverse]
 split
 ·rw [List.getD_eq_getElem?_getD, List.getElem?_eq_getElem (by omega)]
  rfl
 ·have hm : p = xs.length - 1 - p := by omega
  rw [List.getD_eq_getElem?_getD, List.getElem?_eq_getElem hp, Option.getD_some]
  exact getElem_congr rfl hm _
theorem Ij {xs : List (List SV)} {i p : Nat} (h1 : i ≤ p) (h2 : p < xs.length - i) (hi : 2 * i + 1 < xs.length) : (Df xs i)[p]? = some (xs.getD p []) := by
 unfold Df
 rw [List.getElem?_map, List.getElem?_range (by omega), Option.map_some, if_neg (by omega)]
theorem LL {xs : List (List SV)} {i : Nat} (hi : 2 * i + 1 < xs.length) : ((Df xs i).set i (xs.getD (xs.length - 1 - i) [])).set (xs.length - 1 - i) (xs.getD i []) = Df xs (i + 1) := by
 refine List.ext_getElem (by simp [Df]) fun p h1 h2 => ?_
 have hp : p < xs.length := by simpa [Df] using h2
 simp only [List.getElem_set, Df, List.getElem_map, List.getElem_range]
 by_cases e1 : xs.length - 1 - i = p
 ·rw [if_pos e1, if_pos (by omega), show xs.length - 1 - p = i by omega]
 ·rw [if_neg e1]
  by_cases e2 : i = p
  ·rw [if_pos e2, if_pos (by omega), e2]
  ·rw [if_neg e2]
   by_cases e3 : p < i ∨ xs.length - i ≤ p
   ·rw [if_pos e3, if_pos (by omega)]
   ·rw [if_neg e3, if_neg (by omega)]
theorem LO (S : AA) (b : Nat) (xs : List (List SV)) (hb : 1000 ≤ b) (hw : ∀ x ∈ xs, x.length = 3) (hz : xs.length ≤ 1000) (sb : S b = some (.mrow 24 3 xs)) : Aj Tryd.prog 59 [.one (.row b xs.length)] S (.tup []) (AN S b (some (.mrow 24 3 xs.reverse))) := by
 refine BJ.acS fun hS C hC => ?_
 unfold Aq
 repeat' with_reducible first | refine W ?_ | refine Z0 ?_ | ((first | refine Wo fun K hK => ?_ | refine Wp ?_ | refine Wq ?_ | refine Wr ?_); (try simp only [go_sem, fN, seval, eT, iR, AS.startS, sb, dT, dF, nL]); (repeat refine Ai ?_); (try (refine hK _ ?_; clear hK K)); try refine iC ?_)
 refine IWP.loop (fun q s => ∃ i, i ≤ xs.length ∧ q = xs.length - i ∧ s.env 0 = .one (.row b xs.length) ∧ s.env 2 = AQ i ∧ s.env 3 = AQ ((xs.length : Int) - 1 - i) ∧ s.S b = some (.mrow 24 3 (Df xs i)) ∧ ∀ j, 1000 ≤ j → j ≠ b → s.S j = S j) xs.length
  ⟨0, Nat.zero_le _, rfl, rfl, rfl, by simp only [go_sem, fN, seval, eT, iR]; simp, by rw [KY]; exact sb, fun j _ _ => rfl⟩ ?_
 rintro q ⟨env, S1⟩ ⟨i, hi, rfl, e0, e2, e3, s1, hS1⟩
 simp only at e0 e2 e3 s1 hS1
 by_cases hlt : (i : Int) < (xs.length : Int) - 1 - i
 ·have h2 : 2 * i + 1 < xs.length := by omega
  obtain ⟨j, hj⟩ : ∃ j, xs.length - 1 - i = j := ⟨_, rfl⟩
  have hjI : (xs.length : Int) - 1 - i = (j : Int) := by omega
  have hrl := JL xs i
  have g1 := Ij (xs := xs) (i := i) (p := i) (Nat.le_refl _) (by omega) h2
  have g2 := Ij (xs := xs) (i := i) (p := j) (by omega) (by omega) h2
  have hst := LL h2
  rw [hj] at hst
  have hl1 : (xs.getD i []).length = 3 := by
   rw [List.getD_eq_getElem?_getD, List.getElem?_eq_getElem (show i < xs.length by omega)]
   exact hw _ (List.getElem_mem _)
  have hl2 : (xs.getD j []).length = 3 := by
   rw [List.getD_eq_getElem?_getD, List.getElem?_eq_getElem (show j < xs.length by omega)]
   exact hw _ (List.getElem_mem _)
  rw [hjI] at e3 hlt
  have hil : i < xs.length := by omega
  have hjl : j < xs.length := by omega
  have hij : ¬ i = j := by omega
  have hji : ¬ j = i := by omega
  match hu : xs.getD i [], hv : xs.getD j [], hl1, hl2 with
  | [u1, u2, u3], [v1, v2, v3], _, _ =>
   rw [hu] at g1 hst
   rw [hv] at g2 hst
   have hsl : ((Df xs i).set i [v1, v2, v3]).length = xs.length := by rw [List.length_set, hrl]
   have g3 : ((Df xs i).set i [v1, v2, v3])[j]? = some [v1, v2, v3] := by rw [List.getElem?_set_ne hij]; exact g2
   repeat' with_reducible first | refine W ?_ | refine Z0 ?_ | ((first | refine Wo fun K hK => ?_ | refine Wp ?_ | refine Wq ?_ | refine Wr ?_); (try simp only [go_sem, fN, seval, eT, iR, e0, e2, e3, s1, hlt, hil, hjl, hrl, g1, g2, g3, hsl, hst, dT, dF, nL]); (repeat refine Ai ?_); (try (refine hK _ ?_; clear hK K)); try refine iC ?_)
   refine AO ⟨xs.length - (i + 1), by omega, i + 1, by omega, rfl, e0, rfl, ?_, by simp only [go_sem, fN, seval, eT, iR], fun j' h1 h2 => ?_⟩
   ·exact congrArg (fun z => AQ z) (show (j : Int) - 1 = (xs.length : Int) - 1 - ((i + 1 : Nat) : Int) by omega)
   ·have h := hS1 j' h1 h2
    simp only [go_sem, fN, seval, eT, iR, h2, h]
 ·rw [Lk (by omega)] at s1
  repeat' with_reducible first | refine W ?_ | refine Z0 ?_ | ((first | refine Wo fun K hK => ?_ | refine Wp ?_ | refine Wq ?_ | refine Wr ?_); (try simp only [go_sem, fN, seval, eT, iR, e0, e2, e3, s1, hlt, dT, dF, nL]); (repeat refine Ai ?_); (try (refine hK _ ?_; clear hK K)); try refine iC ?_)
  refine AT (.tup []) (Bg hS hb rfl) trivial rfl rfl fun j hj => ?_
  by_cases e : j = b
  ·subst e
   rw [AE]
   exact s1
  ·rw [AR _ e]
   exact hS1 j hj e
theorem Gh : ∀ (f : Nat) (t : Lm) (acc : List Lm), Dg f t acc = ((Dg f t []).1, (Dg f t []).2 ++ acc)
 | 0, t, acc => rfl
 | f + 1, t, acc => by
  unfold Dg
  split
  ·split
   ·rename_i g x _
    rw [Gh f g (x :: acc), Gh f g [x]]
    simp
   ·rfl
  ·rfl
theorem G1 : ∀ {f f' : Nat} (t : Lm) (acc : List Lm), t.size ≤ f → t.size ≤ f' → Dg f t acc = Dg f' t acc
 | 0, f', t, acc, h, _ => by have := Lm.size_pos t; omega
 | f + 1, 0, t, acc, _, h => by have := Lm.size_pos t; omega
 | f + 1, f' + 1, t, acc, h, h' => by
  unfold Dg
  split
  ·split
   ·rename_i g x hs
    have := Lm.size_sub (t := t) (a := g) (by rw [hs]; simp)
    exact G1 g _ (by omega) (by omega)
   ·rfl
  ·rfl
theorem L1 {t g x : Lm} (hk : t.kind = 3) (hs : t.subs = [g, x]) : Av t = ((Av g).1, (Av g).2 ++ [x]) := by
 have hsz := Lm.size_sub (t := t) (a := g) (by rw [hs]; simp)
 have hp := Lm.size_pos g
 obtain ⟨f, hf⟩ : ∃ f, t.size = f + 1 := ⟨t.size - 1, by omega⟩
 unfold Av
 rw [hf, Dg, if_pos hk, hs]
 show Dg f g [x] = _
 rw [G1 (f := f) (f' := g.size) g [x] (by omega) (Nat.le_refl _), Gh g.size g [x]]
theorem Mh {t : Lm} (hk : ¬ t.kind = 3) : Av t = (t, []) := by
 have hp := Lm.size_pos t
 obtain ⟨f, hf⟩ : ∃ f, t.size = f + 1 := ⟨t.size - 1, by omega⟩
 unfold Av
 rw [hf, Dg, if_neg hk]
theorem Em (t : Lm) (hw : t.wf) (hz : t.size ≤ 1000) : Ak Tryd.prog 36 [aLm t] (.tup [aLm (Av t).1, BI (Av t).2]) := by
 refine EZ.ac fun C hC => ?_
 unfold Cl
 repeat' with_reducible first | refine W ?_ | refine Z0 ?_ | ((first | refine Wo fun K hK => ?_ | refine Wp ?_ | refine Wq ?_ | refine Wr ?_); (try simp only [go_sem, fN, seval, eT, iR, dT, dF, nL]); (repeat refine Ai ?_); (try (refine hK _ ?_; clear hK K)); try refine iC ?_)
 refine IWP.ghost (Ar.ownM 4 40 24 3 rfl rfl (by omega)) ?_
 refine IWP.loop (fun q s => ∃ u w, q = u.size ∧ u.wf ∧ u.size + w.length ≤ t.size ∧ (Av t) = ((Av u).1, (Av u).2 ++ w.reverse) ∧ s.env 1 = .one (.ptr 1 1 0 0) ∧ s.env 2 = .one (.ptr 2 1 0 0) ∧ s.env 4 = .one (.row 40 w.length) ∧ s.S 1 = some (Bp u) ∧ s.S 2 = some (.box 24 [.st (.int .i64 0), .st (.int .i64 0), .full []]) ∧ s.S 40 = some (.mrow 24 3 (w.map Af))) t.size
  ⟨t, [], rfl, hw, by simp, by simp, rfl, rfl, rfl, rfl, rfl, rfl⟩ ?_
 rintro q ⟨env, S⟩ ⟨u, w, rfl, hu, hwl, hsp, e1, e2, e4, s1, s2, s40⟩
 simp only at e1 e2 e4 s1 s2 s40
 have hwm : (w.map Af).length = w.length := List.length_map _
 have hwe : ∀ x ∈ w.map Af, x.length = 3 := fun x hx => by
  obtain ⟨y, _, rfl⟩ := List.mem_map.1 hx
  rw [AD]
  rfl
 have hpu := Lm.size_pos u
 by_cases hk : u.kind = 3
 ·obtain ⟨h1, h2⟩ := (Lm.wf_eq u).1 hu
  have hn : CH u.kind = 2 := by unfold CH; rw [if_neg (by omega), if_pos hk]
  rw [hn] at h1
  match hs : u.subs, h1.2.2 with
  | [g, x], _ =>
   have hg := Lm.size_sub (t := u) (a := g) (by rw [hs]; simp)
   have hgx : g.size + x.size < u.size := by
    have := Lm.size_eq u
    rw [hs] at this
    simp only [Lm.sizes] at this
    omega
   have hpx := Lm.size_pos x
   have hap := L1 hk hs
   repeat' with_reducible first | refine W ?_ | refine Z0 ?_ | ((first | refine Wo fun K hK => ?_ | refine Wp ?_ | refine Wq ?_ | refine Wr ?_); (try simp only [go_sem, fN, seval, eT, iR, e1, e2, e4, s1, s2, s40, hk, hs, hwm, AD, dT, dF, nL]); (repeat refine Ai ?_); (try (refine hK _ ?_; clear hK K)); try refine iC ?_)
   refine AO ⟨g.size, by omega, g, w ++ [x], rfl, Lm.wf_sub hu (by rw [hs]; simp), by simp; omega, ?_, e1, e2, ?_, ?_, s2, ?_⟩
   ·rw [hsp, hap]
    simp
   ·simp only [go_sem, fN, seval, eT, iR]
   ·simp only [go_sem, fN, seval, eT, iR]
   ·rw [List.map_append]
    simp only [go_sem, fN, seval, eT, iR, AD]
  | [], h => simp at h
  | [_], h => simp at h
  | _ :: _ :: _ :: _, h => simp at h; omega
 ·have hend := Mh hk
  rw [hend] at hsp
  have hwr : (w.reverse.map Af).length = w.length := by simp
  rw [hsp]
  simp only [List.nil_append]
  repeat' with_reducible first | refine W ?_ | refine Z0 ?_ | ((first | refine Wo fun K hK => ?_ | refine Wp ?_ | refine Wq ?_ | refine Wr ?_); (try simp only [go_sem, fN, seval, eT, iR, e1, e2, e4, s1, s2, s40, hk, dT, dF, nL]); (repeat refine Ai ?_); (try (refine hK _ ?_; clear hK K)); try refine iC ?_)
  refine ⟨.tup [], [(40, .mrow 24 3 (w.map Af), .mrow 24 3 (w.reverse.map Af))], IG s40, fun T hT => ?_, ?_⟩
  ·show Aj _ _ _ _ _ (upS (AN T 40 (some _)))
   rw [Cp]
   have h := LO (upS T) (up1 40) (w.map Af) (BR _) hwe (by omega) (by rw [BS, KL hT]; rfl)
   rw [hwm, ← List.map_reverse] at h
   exact h
  generalize w.reverse = v at *
  (try simp only [go_sem, fN, seval, eT, iR, e1, e2, e4, s1, s2, s40, dT, dF, nL])
  refine hK _ ?_
  clear hK K
  refine IWP.ghost (Ar.share (id := 40) (e := 24) (wd := 3) (xs := v.map Af) (by simp only [go_sem, fN, seval, eT, iR])) ?_
  repeat' with_reducible first | refine W ?_ | refine Z0 ?_ | ((first | refine Wo fun K hK => ?_ | refine Wp ?_ | refine Wq ?_ | refine Wr ?_); (try simp only [go_sem, fN, seval, eT, iR, e1, e2, e4, s1, s2, s40, dT, dF, nL]); (repeat refine Ai ?_); (try (refine hK _ ?_; clear hK K)); try refine iC ?_)
  simp only [go_sem, fN, seval, Ap, AS.result, AG, AH, AY, e2, hwr]
theorem Me (t : Lm) (hw : t.wf) (hg : t.good 1000000000) (hz : t.size ≤ 100000) : Ak Tryd.prog 35 [aLm t] (aLm (Dv t)) := by
 refine Fj.ac fun C hC => ?_
 unfold Dc
 by_cases hk : t.kind = 2
 ·obtain ⟨h1, h2⟩ := (Lm.wf_eq t).1 hw
  have hn : CH t.kind = 1 := by unfold CH; rw [if_pos hk]
  rw [hn] at h1
  match hs : t.subs, h1.2.2 with
  | [b], _ =>
   have ho : Dv t = b := by unfold Dv; rw [if_pos hk, hs]; rfl
   rw [ho]
   repeat' with_reducible first | refine W ?_ | refine Z0 ?_ | ((first | refine Wo fun K hK => ?_ | refine Wp ?_ | refine Wq ?_ | refine Wr ?_); (try simp only [go_sem, fN, seval, eT, iR, hk, hs, AD, dT, dF, nL]); (repeat refine Ai ?_); (try (refine hK _ ?_; clear hK K)); try refine iC ?_)
   simp only [go_sem, fN, seval, Ap, AS.result, AG, AH, AY]
  | [], h => simp at h
  | _ :: _ :: _, h => simp at h; omega
 ·have ho : Dv t = Lm.a (Lm.mv 1 0 t) (Lm.v 0) := by unfold Dv; rw [if_neg hk]
  rw [ho]
  have h1 := He t 1 0 hg (by decide) (by decide) (by omega)
  have h2 := Nl (Lm.mv 1 0 t) (Lm.v 0)
  have h3 := Jd 0
  generalize Lm.mv 1 0 t = u at *
  generalize Lm.a u (Lm.v 0) = z at *
  repeat' (first | (with_reducible first | refine W ?_ | refine Z0 ?_ | ((first | refine Wo fun K hK => ?_ | refine Wp ?_ | refine Wq ?_ | refine Wr ?_); (try simp only [go_sem, fN, seval, eT, iR, hk, dT, dF, nL]); (repeat refine Ai ?_); (try (refine hK _ ?_; clear hK K)); try refine iC ?_)) | refine Cg _ (h1) ?_ | refine Cg _ (h3) ?_ | refine Cg _ (h2) ?_)
  simp only [go_sem, fN, seval, Ap, AS.result, AG, AH, AY]

set_option maxHeartbeats 4000000
theorem AU {b c : Nat} (hb : 1000 ≤ b) (hc : c < 1000) : (b = c) = False := eq_false (by omega)
theorem BZ {b c : Nat} (hb : 1000 ≤ b) (hc : c < 1000) : (c = b) = False := eq_false (by omega)
theorem FA {b c : Nat} (hb : 1000 ≤ b) (hc : c < 1000) : (b == c) = false := by simp; omega
theorem CL {s : AS} {S : AA} {ds : List Nat} {j : Nat} (hS : A7 S) (hd : ∀ d ∈ ds, d < 1000) (hj : 1000 ≤ j) (h : s.S j = S j) : (s.drop ds).S j = S j := by
 have hn : ds.contains j = false := by
  cases hc : ds.contains j with
  | false => rfl
  | true =>
   have := hd j (by simpa using hc)
   omega
 show (if _ then none else (s.S j).map _) = S j
 rw [hn, if_neg (by simp), h]
 cases hb : S j with
 | none => rfl
 | some b => rw [Option.map_some, AF.purge_high hd (hS j b hb).2]
theorem IU {P : Lm → Prop} (hP : ∀ t a, P t → a ∈ t.subs → P a) : ∀ (f : Nat) (t : Lm) (acc : List Lm), P t → (∀ x ∈ acc, P x) → P (Dg f t acc).1 ∧ ∀ x ∈ (Dg f t acc).2, P x
 | 0, t, acc, h, ha => ⟨h, ha⟩
 | f + 1, t, acc, h, ha => by
  unfold Dg
  split
  ·split
   ·rename_i g x hs
    exact IU hP f g (x :: acc) (hP t g h (by rw [hs]; simp)) (fun y hy => by
     rcases List.mem_cons.1 hy with rfl | hy
     ·exact hP t _ h (by rw [hs]; simp)
     ·exact ha y hy)
   ·exact ⟨h, ha⟩
  ·exact ⟨h, ha⟩
theorem D4 {P : Lm → Prop} (hP : ∀ t a, P t → a ∈ t.subs → P a) {t : Lm} (h : P t) : P (Av t).1 ∧ ∀ x ∈ (Av t).2, P x := IU hP _ t [] h (by simp)
theorem F1 : ∀ (f : Nat) (t : Lm) (acc : List Lm), (Dg f t acc).1.size + (Dg f t acc).2.length ≤ t.size + acc.length
 | 0, t, acc => Nat.le_refl _
 | f + 1, t, acc => by
  unfold Dg
  split
  ·split
   ·rename_i g x hs
    have h1 := F1 f g (x :: acc)
    have h2 := Lm.size_sub (t := t) (a := g) (by rw [hs]; simp)
    simp only [List.length_cons] at h1
    omega
   ·exact Nat.le_refl _
  ·exact Nat.le_refl _
abbrev Ag (KB n : Nat) : AF := .box 47 [.row KB n]
abbrev Ad (Kn : List Lm) : AF := .mrow 24 3 (Kn.map Af)
def Ci (S : AA) (G KB : Nat) (Kn : List Lm) : AA := AN (AN S G (some (Ag KB Kn.length))) KB (some (Ad Kn))
theorem Fs {S : AA} {G KB : Nat} {Kn : List Lm} (h : G ≠ KB) : Ci S G KB Kn G = some (Ag KB Kn.length) := by unfold Ci; rw [AR _ h, AE]
theorem Fo {S : AA} {G KB : Nat} {Kn : List Lm} : Ci S G KB Kn KB = some (Ad Kn) := AE _ _ _
theorem Dk {S : AA} {G KB i : Nat} {Kn : List Lm} (h1 : i ≠ G) (h2 : i ≠ KB) : Ci S G KB Kn i = S i := by unfold Ci; rw [AR _ h2, AR _ h1]
theorem A0 {S : AA} {G KB : Nat} {Kn : List Lm} (hS : A7 S) (hG : 1000 ≤ G) (hK : 1000 ≤ KB) : A7 (Ci S G KB Kn) :=
 Bg (Bg hS hG (by show AC.highs [.row KB Kn.length] = true; rw [AC.highs, IL hK]; rfl)) hK rfl
theorem Fg {S : AA} {G KB : Nat} {Kn Kn' : List Lm} (h : G ≠ KB) : Ci (Ci S G KB Kn) G KB Kn' = Ci S G KB Kn' := by
 funext i
 by_cases e1 : i = KB
 ·subst e1; rw [Fo, Fo]
 ·by_cases e2 : i = G
  ·subst e2; rw [Fs h, Fs h]
  ·rw [Dk e2 e1, Dk e2 e1, Dk e2 e1]
theorem EP {S : AA} {G KB : Nat} {Kn : List Lm} (sG : S G = some (Ag KB Kn.length)) (sK : S KB = some (Ad Kn)) : Ci S G KB Kn = S := by
 funext i
 unfold Ci AN
 split
 ·rename_i h; rw [h, sK]
 ·split
  ·rename_i h; rw [h, sG]
  ·rfl
theorem M1 {P : Program} {f : FuncId} {xs : List AV} {S S' : AA} {r : AV} (h : Aj P f xs S r S') : Fp P f xs S (fun r' S'' => r' = r ∧ S'' = S') := fun hclean σ w vs ι h1 h2 h3 h4 => (h hclean σ w vs ι h1 h2 h3 h4).mono fun e w' ⟨v, σ', ι', q1, q2, q3⟩ => ⟨v, r, S', σ', ι', q1, ⟨rfl, rfl⟩, q2, q3⟩
theorem CC {P : Program} {f : FuncId} {S T T' : AA} {us vs : List AV} {r : AV} {d : Option Nat} {l : List Ins} {env : Nat → AV} {Q : AS → Prop} (hv : us = vs) (hh : AV.highs vs = true) (hT : A7 T) (hST : ∀ i, 1000 ≤ i → S i = T i) (hc : Aj P f vs T r T') (h : Run P l ((⟨env, BD S T'⟩ : AS).put d r) Q) :
  H1 P S (AV.highs us) (Fp P f us) d l env Q := by
 subst hv
 refine H1.mk T _ hT hST hh (M1 hc) ?_
 rintro r' S' hcl ⟨rfl, rfl⟩
 exact h
abbrev BG (S : AA) (Kn : List Lm) : AA := Ci S 2023 2021 Kn
theorem El {S : AA} {Kn : List Lm} : BG S Kn 2023 = some (Ag 2021 Kn.length) := Fs (by decide)
theorem Ed {S : AA} {Kn : List Lm} : BG S Kn 2021 = some (Ad Kn) := Fo
theorem Cx {S : AA} {i : Nat} {Kn : List Lm} (h1 : i ≠ 2023) (h2 : i ≠ 2021) : BG S Kn i = S i := Dk h1 h2
theorem N1 (S : AA) (G KB : Nat) (hG : 1000 ≤ G) (hKB : 1000 ≤ KB) (Kn : List Lm) (sG : S G = some (Ag KB Kn.length)) (sK : S KB = some (Ad Kn)) (f : Nat) (t u : Lm) (hu : Dy f Kn t = some u) :
  Aj Tryd.prog 34 [.one (.ptr G 1 0 0), aLm t] S (aLm u) S := by
 refine CG.acS fun hS C hC => ?_
 unfold BY
 have n3 := AZ hS (i := 3) (by omega)
 have n4 := AZ hS (i := 4) (by omega)
 have n5 := AZ hS (i := 5) (by omega)
 have hKl : (Kn.map Af).length = Kn.length := List.length_map _
 repeat' with_reducible first | refine W ?_ | refine Z0 ?_ | ((first | refine Wo fun K hK => ?_ | refine Wp ?_ | refine Wq ?_ | refine Wr ?_); (try simp only [go_sem, fN, seval, eT, iR, AS.startS, n3, n4, BZ, AU, hG, hKB, dT, dF, nL]); (repeat refine Ai ?_); (try (refine hK _ ?_; clear hK K)); try refine iC ?_)
 refine IWP.loopD [5] (fun q s => ∃ f t, q = f ∧ Dy f Kn t = some u ∧ s.env 0 = .one (.ptr G 1 0 0) ∧ s.env 3 = .one (.ptr 3 1 0 0) ∧ s.env 4 = .one (.ptr 4 1 0 0) ∧ s.S 3 = some (Bp t) ∧ s.S 4 = some (.box 24 [.st (.int .i64 0), .st (.int .i64 0), .full []]) ∧ s.S 5 = none ∧ ∀ j, 1000 ≤ j → s.S j = S j) f
  ⟨f, t, rfl, hu, rfl, rfl, rfl, by simp only [go_sem, fN, seval, eT, iR], by simp only [go_sem, fN, seval, eT, iR], by simp only [go_sem, fN, seval, eT, iR, n5], fun j hj => by simp only [go_sem, fN, seval, eT, iR, AU, hj]⟩ ?_
 clear hu t f
 rintro f ⟨env, S1⟩ ⟨_, t, rfl, hu, e0, e3, e4, s3, s4, s5, hS1⟩
 simp only at e0 e3 e4 s3 s4 s5 hS1
 have hG1 := (hS1 G hG).trans sG
 have hK1 := (hS1 KB hKB).trans sK
 cases f with
 | zero => simp [Dy] at hu
 | succ f =>
  unfold Dy at hu
  split at hu
  ·simp at hu
  rename_i hok
  have hok : okL t = true := by simpa using hok
  obtain ⟨hgd, hsz⟩ := CS hok
  have hwf := GK hok
  have hsp := Em t hwf hsz
  have hPw := D4 (P := Lm.wf) (fun t a h ha => Lm.wf_sub h ha) hwf
  have hPg := D4 (P := Lm.good 1000000000) (fun t a h ha => Lm.good_sub h ha) hgd
  have hln : (Av t).1.size + (Av t).2.length ≤ t.size + ([] : List Lm).length := F1 t.size t []
  generalize Av t = p at *
  obtain ⟨h, w⟩ := p
  simp only [List.length_nil] at hu hPw hPg hsp hln
  obtain ⟨i, hi⟩ : ∃ i : Nat, h.idx = (i : Int) := ⟨h.idx.toNat, by have := ((Lm.good_eq _ h).1 hPg.1).2.1; omega⟩
  rw [hi, Int.toNat_natCast] at hu
  by_cases hk5 : h.kind = 5
  ·rw [if_pos hk5] at hu
   match hk : Kn[i]?, hu with
   | some k, hu =>
    have hil : i < Kn.length := (List.getElem?_eq_some_iff.1 hk).1
    by_cases hk0 : k.kind = 0
    ·simp only [hk0, if_true, Option.some.injEq] at hu
     subst hu
     repeat' (first | (with_reducible first | refine W ?_ | refine Z0 ?_ | ((first | refine Wo fun K hK => ?_ | refine Wp ?_ | refine Wq ?_ | refine Wr ?_); (try simp only [go_sem, fN, seval, eT, iR, e0, e3, e4, s3, s4, s5, hG1, hK1, hG, hKB, AU, BZ, hk5, hi, hk, hk0, hil, hKl, AD, dT, dF, nL]); (repeat refine Ai ?_); (try (refine hK _ ?_; clear hK K)); try refine iC ?_)) | refine Cg _ (hsp) ?_)
     refine AT (aLm t) hS trivial ?_ rfl fun j hj => ?_
     ·simp only [go_sem, fN, seval, eT, iR, AG, AH, AY, e4]
     ·have hj2 := hS1 j hj
      simp only [go_sem, fN, seval, eT, iR, AU, hj, hj2]
    ·simp only [hk0, if_false] at hu
     repeat' (first | (with_reducible first | refine W ?_ | refine Z0 ?_ | ((first | refine Wo fun K hK => ?_ | refine Wp ?_ | refine Wq ?_ | refine Wr ?_); (try simp only [go_sem, fN, seval, eT, iR, e0, e3, e4, s3, s4, s5, hG1, hK1, hG, hKB, AU, BZ, hk5, hi, hk, hk0, hil, hKl, AD, dT, dF, nL]); (repeat refine Ai ?_); (try (refine hK _ ?_; clear hK K)); try refine iC ?_)) | refine Cg _ (hsp) ?_ | refine Cg _ (GB k w) ?_)
     refine AO ⟨f, by omega, f, (C1 k w), rfl, hu, ?_, ?_, ?_, ?_, ?_, ?_, fun j hj => CL hS (by decide) hj ?_⟩
     ·simp only [go_sem, fN, seval, AS.drop, AJ, AC.clears, AC.clear, AC.highs, AC.high, Bool.not_false, Bool.true_and, Bool.and_self, AV.purge, AV.purges, AC.purge, AF.purge, List.contains_cons, List.contains_nil, Nat.reduceBEq, Bool.or_self, Bool.or_false, Bool.false_or, Bool.or_true, eT, iR, e0, FA, hG]
     ·simp only [go_sem, fN, seval, AS.drop, AJ, AC.clears, AC.clear, AC.highs, AC.high, Bool.not_false, Bool.true_and, Bool.and_self, AV.purge, AV.purges, AC.purge, AF.purge, List.contains_cons, List.contains_nil, Nat.reduceBEq, Bool.or_self, Bool.or_false, Bool.false_or, Bool.or_true, eT, iR, e3]
     ·simp only [go_sem, fN, seval, AS.drop, AJ, AC.clears, AC.clear, AC.highs, AC.high, Bool.not_false, Bool.true_and, Bool.and_self, AV.purge, AV.purges, AC.purge, AF.purge, List.contains_cons, List.contains_nil, Nat.reduceBEq, Bool.or_self, Bool.or_false, Bool.false_or, Bool.or_true, eT, iR, e4]
     ·simp only [go_sem, fN, seval, AS.drop, AJ, AC.clears, AC.clear, AC.highs, AC.high, Bool.not_false, Bool.true_and, Bool.and_self, AV.purge, AV.purges, AC.purge, AF.purge, List.contains_cons, List.contains_nil, Nat.reduceBEq, Bool.or_self, Bool.or_false, Bool.false_or, Bool.or_true, eT, iR, s3]
     ·simp only [go_sem, fN, seval, AS.drop, AJ, AC.clears, AC.clear, AC.highs, AC.high, Bool.not_false, Bool.true_and, Bool.and_self, AV.purge, AV.purges, AC.purge, AF.purge, List.contains_cons, List.contains_nil, Nat.reduceBEq, Bool.or_self, Bool.or_false, Bool.false_or, Bool.or_true, eT, iR, s4]
     ·simp only [go_sem, fN, seval, AS.drop, AJ, AC.clears, AC.clear, AC.highs, AC.high, Bool.not_false, Bool.true_and, Bool.and_self, AV.purge, AV.purges, AC.purge, AF.purge, List.contains_cons, List.contains_nil, Nat.reduceBEq, Bool.or_self, Bool.or_false, Bool.false_or, Bool.or_true, eT, iR, s5]
     ·have hj2 := hS1 j hj
      simp only [go_sem, fN, seval, eT, iR, AU, hj, hj2]
  ·rw [if_neg hk5] at hu
   by_cases hk2 : h.kind = 2
   ·rw [if_pos hk2] at hu
    match w, hu with
    | [], hu =>
     simp only [Option.some.injEq] at hu
     subst hu
     repeat' (first | (with_reducible first | refine W ?_ | refine Z0 ?_ | ((first | refine Wo fun K hK => ?_ | refine Wp ?_ | refine Wq ?_ | refine Wr ?_); (try simp only [go_sem, fN, seval, eT, iR, e0, e3, e4, s3, s4, s5, hk5, hk2, AD, dT, dF, nL]); (repeat refine Ai ?_); (try (refine hK _ ?_; clear hK K)); try refine iC ?_)) | refine Cg _ (hsp) ?_)
     refine AT (aLm t) hS trivial ?_ rfl fun j hj => ?_
     ·simp only [go_sem, fN, seval, eT, iR, AG, AH, AY, e4]
     ·have hj2 := hS1 j hj
      simp only [go_sem, fN, seval, eT, iR, AU, hj, hj2]
    | x :: w, hu =>
     match hsb : h.subs, hu with
     | [b], hu =>
      simp only at hu
      split at hu
      ·rename_i hob
       have htl : List.take w.length (List.map Af w) = List.map Af w := List.take_of_length_le (by simp)
       have hpos : (0 : Int) < ((w.length + 1 : Nat) : Int) := by omega
       obtain ⟨hb1, hb2⟩ := CS hob.1
       obtain ⟨hx1, hx2⟩ := CS hob.2
       repeat' (first | (with_reducible first | refine W ?_ | refine Z0 ?_ | ((first | refine Wo fun K hK => ?_ | refine Wp ?_ | refine Wq ?_ | refine Wr ?_); (try simp only [go_sem, fN, seval, eT, iR, e0, e3, e4, s3, s4, s5, hk5, hk2, hsb, hpos, htl, AD, dT, dF, nL]); (repeat refine Ai ?_); (try (refine hK _ ?_; clear hK K)); try refine iC ?_)) | refine Cg _ (hsp) ?_ | refine Cg _ (NN b x hb1 hx1 (by omega) (by omega)) ?_ | refine Cg _ (GB (Lm.put x 0 b) w) ?_)
       refine AO ⟨f, by omega, f, (C1 (Lm.put x 0 b) w), rfl, hu, ?_, ?_, ?_, ?_, ?_, ?_, fun j hj => CL hS (by decide) hj ?_⟩
       ·simp only [go_sem, fN, seval, AS.drop, AJ, AC.clears, AC.clear, AC.highs, AC.high, Bool.not_false, Bool.true_and, Bool.and_self, AV.purge, AV.purges, AC.purge, AF.purge, List.contains_cons, List.contains_nil, Nat.reduceBEq, Bool.or_self, Bool.or_false, Bool.false_or, Bool.or_true, eT, iR, e0, FA, hG]
       ·simp only [go_sem, fN, seval, AS.drop, AJ, AC.clears, AC.clear, AC.highs, AC.high, Bool.not_false, Bool.true_and, Bool.and_self, AV.purge, AV.purges, AC.purge, AF.purge, List.contains_cons, List.contains_nil, Nat.reduceBEq, Bool.or_self, Bool.or_false, Bool.false_or, Bool.or_true, eT, iR, e3]
       ·simp only [go_sem, fN, seval, AS.drop, AJ, AC.clears, AC.clear, AC.highs, AC.high, Bool.not_false, Bool.true_and, Bool.and_self, AV.purge, AV.purges, AC.purge, AF.purge, List.contains_cons, List.contains_nil, Nat.reduceBEq, Bool.or_self, Bool.or_false, Bool.false_or, Bool.or_true, eT, iR, e4]
       ·simp only [go_sem, fN, seval, AS.drop, AJ, AC.clears, AC.clear, AC.highs, AC.high, Bool.not_false, Bool.true_and, Bool.and_self, AV.purge, AV.purges, AC.purge, AF.purge, List.contains_cons, List.contains_nil, Nat.reduceBEq, Bool.or_self, Bool.or_false, Bool.false_or, Bool.or_true, eT, iR, s3]
       ·simp only [go_sem, fN, seval, AS.drop, AJ, AC.clears, AC.clear, AC.highs, AC.high, Bool.not_false, Bool.true_and, Bool.and_self, AV.purge, AV.purges, AC.purge, AF.purge, List.contains_cons, List.contains_nil, Nat.reduceBEq, Bool.or_self, Bool.or_false, Bool.false_or, Bool.or_true, eT, iR, s4]
       ·simp only [go_sem, fN, seval, AS.drop, AJ, AC.clears, AC.clear, AC.highs, AC.high, Bool.not_false, Bool.true_and, Bool.and_self, AV.purge, AV.purges, AC.purge, AF.purge, List.contains_cons, List.contains_nil, Nat.reduceBEq, Bool.or_self, Bool.or_false, Bool.false_or, Bool.or_true, eT, iR, s5]
       ·have hj2 := hS1 j hj
        simp only [go_sem, fN, seval, eT, iR, AU, hj, hj2]
      ·cases hu
   ·rw [if_neg hk2] at hu
    simp only [Option.some.injEq] at hu
    subst hu
    repeat' (first | (with_reducible first | refine W ?_ | refine Z0 ?_ | ((first | refine Wo fun K hK => ?_ | refine Wp ?_ | refine Wq ?_ | refine Wr ?_); (try simp only [go_sem, fN, seval, eT, iR, e0, e3, e4, s3, s4, s5, hk5, hk2, AD, dT, dF, nL]); (repeat refine Ai ?_); (try (refine hK _ ?_; clear hK K)); try refine iC ?_)) | refine Cg _ (hsp) ?_)
    refine AT (aLm t) hS trivial ?_ rfl fun j hj => ?_
    ·simp only [go_sem, fN, seval, eT, iR, AG, AH, AY, e4]
    ·have hj2 := hS1 j hj
     simp only [go_sem, fN, seval, eT, iR, AU, hj, hj2]
theorem Iz : Af Lm.nil = [.int .i64 0, .int .i64 0, .list []] := rfl
theorem KC (S : AA) (Kn : List Lm) (sG : S 2023 = some (Ag 2021 Kn.length)) (sK : S 2021 = some (Ad Kn)) (hl : Kn.length ≤ 1000) :
  Aj Tryd.prog 60 [.one (.ptr 2023 1 0 0)] S (aLm (mU Kn.length)) (BG S (Kn ++ [Lm.nil])) := by
 refine B2.acS fun hS C hC => ?_
 unfold BQ
 have n2 := AZ hS (i := 2) (by omega)
 have hKl : (Kn.map Af).length = Kn.length := List.length_map _
 have hm := N5 Kn.length
 have hg1 : (Kn.map Af ++ [[.int .i64 0, .int .i64 0, .list []]])[Kn.length]? = some [.int .i64 0, .int .i64 0, .list []] := by rw [← hKl]; exact List.getElem?_concat_length
 have hg2 : (Kn.map Af ++ [[SV.int .i64 0, .int .i64 0, .list []]]).set Kn.length [.int .i64 0, .int .i64 0, .list []] = Kn.map Af ++ [[.int .i64 0, .int .i64 0, .list []]] := by rw [← hKl]; simp
 have hsub : ((Kn.length + 1 : Nat) : Int) - 1 = Kn.length := by omega
 generalize hu : mU Kn.length = u at *
 repeat' (first | (with_reducible first | refine W ?_ | refine Z0 ?_ | ((first | refine Wo fun K hK => ?_ | refine Wp ?_ | refine Wq ?_ | refine Wr ?_); (try simp only [go_sem, fN, seval, eT, iR, AS.startS, n2, sG, sK, hKl, hg1, hg2, hsub, dT, dF, nL]); (repeat refine Ai ?_); (try (refine hK _ ?_; clear hK K)); try refine iC ?_)) | refine Cg _ (hm) ?_)
 refine AT (aLm u) (A0 (G := 2023) (KB := 2021) hS (by decide) (by decide)) trivial ?_ rfl fun j hj => ?_
 ·simp only [go_sem, fN, seval, eT, iR, AG, AH, AY]
 ·unfold BG Ci AN
  simp only [go_sem, fN, seval, eT, iR, AU, hj]
  by_cases h1 : j = 2021 <;> by_cases h2 : j = 2023 <;> simp [h1, h2, Ad, Ag, Iz]
theorem EG : ∀ {x y : List Lm} {k : Nat} {a b : Lm} (i : Int), x[k]? = some a → y[k]? = some b → Ay i (x.take (k + 1)) (y.take (k + 1)) = Ay i (x.take k) (y.take k) ++ (if a.idx = b.idx then [i + k] else [])
 | [], _, _, _, _, _, h, _ => by simp at h
 | _ :: _, [], _, _, _, _, _, h => by simp at h
 | x :: xs, y :: ys, 0, a, b, i, h1, h2 => by
  simp only [List.getElem?_cons_zero, Option.some.injEq] at h1 h2
  subst h1; subst h2
  simp [Ay]
 | x :: xs, y :: ys, k + 1, a, b, i, h1, h2 => by
  rw [List.getElem?_cons_succ] at h1 h2
  have ih := EG (i + 1) h1 h2
  have e : i + 1 + (k : Int) = i + ((k + 1 : Nat) : Int) := by omega
  rw [e] at ih
  rw [List.take_succ_cons, List.take_succ_cons, List.take_succ_cons, List.take_succ_cons, Ay, Ay, ih]
  split <;> simp
theorem Ef : ∀ {x y : List Lm} {i j : Int}, j ∈ Ay i x y → i ≤ j ∧ j < i + x.length
 | [], _, _, _, h => by simp [Ay] at h
 | _ :: _, [], _, _, h => by simp [Ay] at h
 | x :: xs, y :: ys, i, j, h => by
  unfold Ay at h
  have ih := @Ef xs ys (i + 1) j
  simp only [List.length_cons]
  split at h
  ·rcases List.mem_cons.1 h with rfl | h
   ·omega
   ·have := ih h; omega
  ·have := ih h; omega
theorem DJ : ∀ (x y : List Lm) (i : Int), (Ay i x y).length ≤ x.length
 | [], _, _ => by simp [Ay]
 | _ :: _, [], _ => by simp [Ay]
 | x :: xs, y :: ys, i => by
  unfold Ay
  have ih := DJ xs ys (i + 1)
  split <;> simp only [List.length_cons] <;> omega
theorem Ns (S : AA) (Kn Kn' : List Lm) (b : Bool) (m : Int) (x y : List Lm) (hm : J1 Kn m x y = some (Kn', b)) (sG : S 2023 = some (Ag 2021 Kn.length)) (sK : S 2021 = some (Ad Kn)) :
  Aj Tryd.prog 37 [.one (.ptr 2023 1 0 0), AQ m, BI x, BI y] S (An b) (BG S Kn') := by
 refine CD.acS fun hS C hC => ?_
 unfold BU
 unfold J1 at hm
 split at hm
 ·cases hm
 rename_i hb
 simp only [Decidable.not_not] at hb
 obtain ⟨hm0, hmK, hx1, hK1⟩ := hb
 obtain ⟨i, rfl⟩ : ∃ i : Nat, m = (i : Int) := ⟨m.toNat, by omega⟩
 rw [Int.toNat_natCast] at hmK
 have hKl : (Kn.map Af).length = Kn.length := List.length_map _
 have hxl : (x.map Af).length = x.length := List.length_map _
 have hyl : (y.map Af).length = y.length := List.length_map _
 have n11 := AZ hS (i := 11) (by omega)
 have n90 := AZ hS (i := 90) (by omega)
 have hself : BG S Kn = S := EP sG sK
 split at hm
 ·rename_i hne
  cases hm
  have hne' : ¬ ((x.length : Nat) : Int) = y.length := by omega
  rw [hself]
  repeat' with_reducible first | refine W ?_ | refine Z0 ?_ | ((first | refine Wo fun K hK => ?_ | refine Wp ?_ | refine Wq ?_ | refine Wr ?_); (try simp only [go_sem, fN, seval, eT, iR, AS.startS, hne', dT, dF, nL]); (repeat refine Ai ?_); (try (refine hK _ ?_; clear hK K)); try refine iC ?_)
  refine AT (An false) hS trivial ?_ rfl fun j hj => ?_
  ·simp only [go_sem, fN, seval, eT, iR, AG, AH, AY]
  ·rfl
 rename_i heq
 simp only [Decidable.not_not] at heq
 have heq' : ((y.length : Nat) : Int) = x.length := by omega
 repeat' with_reducible first | refine W ?_ | refine Z0 ?_ | ((first | refine Wo fun K hK => ?_ | refine Wp ?_ | refine Wq ?_ | refine Wr ?_); (try simp only [go_sem, fN, seval, eT, iR, AS.startS, heq', dT, dF, nL]); (repeat refine Ai ?_); (try (refine hK _ ?_; clear hK K)); try refine iC ?_)
 refine IWP.ghost (Ar.own 9 90 3 1 (xs := ([] : List (List SV))) rfl (by simp only [go_sem, fN, seval, eT, iR, n90]) (by simp) (by omega)) ?_
 refine IWP.loop (fun q s => ∃ k, k ≤ x.length ∧ q = x.length - k ∧ s.env 0 = .one (.ptr 2023 1 0 0) ∧ s.env 1 = AQ i ∧ s.env 2 = BI x ∧ s.env 3 = BI y ∧ s.env 9 = .one (.row 90 (Ay 0 (x.take k) (y.take k)).length) ∧ s.env 18 = AQ x.length ∧ s.env 19 = AQ k ∧ s.S 11 = none ∧ s.S 90 = some (.arow 3 1 ((Ay 0 (x.take k) (y.take k)).map DQ)) ∧ ∀ j, 1000 ≤ j → s.S j = S j) x.length
  ⟨0, Nat.zero_le _, rfl, rfl, rfl, rfl, rfl, rfl, rfl, rfl, by simp only [go_sem, fN, seval, eT, iR, n11], by simp only [go_sem, fN, seval, eT, iR]; rfl, fun j hj => by simp only [go_sem, fN, seval, eT, iR, AU, hj]⟩ ?_
 rintro q ⟨env, S1⟩ ⟨k, hk, rfl, e0, e1, e2, e3, e9, e18, e19, s11, s90, hS1⟩
 simp only at e0 e1 e2 e3 e9 e18 e19 s11 s90 hS1
 by_cases hlt : (k : Int) < x.length
 ·obtain ⟨a, ha⟩ := A1 (show k < x.length by omega)
  obtain ⟨b', hb'⟩ := A1 (show k < y.length by omega)
  have hsn := EG 0 ha hb'
  have hsl := DJ (x.take k) (y.take k) 0
  rw [List.length_take] at hsl
  generalize hL : Ay 0 (x.take k) (y.take k) = L at *
  have hLl : (L.map DQ).length = L.length := List.length_map _
  by_cases hab : a.idx = b'.idx
  ·rw [if_pos hab, Int.zero_add] at hsn
   repeat' with_reducible first | refine W ?_ | refine Z0 ?_ | ((first | refine Wo fun K hK => ?_ | refine Wp ?_ | refine Wq ?_ | refine Wr ?_); (try simp only [go_sem, fN, seval, eT, iR, e0, e1, e2, e3, e9, e18, e19, s11, s90, hlt, ha, hb', hab, hLl, AD, dT, dF, nL]); (repeat refine Ai ?_); (try (refine hK _ ?_; clear hK K)); try refine iC ?_)
   refine AO ⟨x.length - (k + 1), by omega, k + 1, by omega, rfl, e0, e1, e2, e3, ?_, e18, rfl, s11, ?_, fun j hj => ?_⟩
   ·rw [hsn]
    simp only [go_sem, fN, seval, eT, iR]
   ·rw [hsn, List.map_append]
    simp only [go_sem, fN, seval, eT, iR, DQ]
   ·have hj2 := hS1 j hj
    simp only [go_sem, fN, seval, eT, iR, AU, hj, hj2]
  ·rw [if_neg hab, List.append_nil] at hsn
   repeat' with_reducible first | refine W ?_ | refine Z0 ?_ | ((first | refine Wo fun K hK => ?_ | refine Wp ?_ | refine Wq ?_ | refine Wr ?_); (try simp only [go_sem, fN, seval, eT, iR, e0, e1, e2, e3, e9, e18, e19, s11, s90, hlt, ha, hb', hab, hLl, AD, dT, dF, nL]); (repeat refine Ai ?_); (try (refine hK _ ?_; clear hK K)); try refine iC ?_)
   refine AO ⟨x.length - (k + 1), by omega, k + 1, by omega, rfl, e0, e1, e2, e3, ?_, e18, rfl, s11, ?_, hS1⟩
   ·rw [hsn]; exact e9
   ·rw [hsn]; exact s90
 ·have hke : k = x.length := by omega
  rw [hke, List.take_length, heq, List.take_length] at s90 e9
  have hsl := DJ x y 0
  have hsm : ∀ j ∈ Ay 0 x y, 0 ≤ j ∧ j ≤ 1000 := fun j hj => by have := Ef hj; omega
  generalize hL : Ay 0 x y = L at *
  have hLl : (L.map DQ).length = L.length := List.length_map _
  by_cases hlt2 : L.length < x.length
  ·rw [if_pos hlt2] at hm
   cases hm
   have hlt2' : ((L.length : Nat) : Int) < x.length := by omega
   have hgv : In Kn i L x.length = (Kn ++ [Lm.nil]).set i (Bn (C1 (mU Kn.length) (CO L x.length)) x.length) := rfl
   rw [hgv]
   have hf := KC S Kn sG sK (by omega)
   generalize mU Kn.length = u at *
   have hc1 := G5 L x.length ⟨by omega, by omega⟩ hsm (by omega)
   generalize CO L x.length = w at *
   have hc2 := GB u w
   generalize C1 u w = z at *
   have hc3 := FH z x.length (by omega)
   generalize Bn z x.length = v at *
   repeat' with_reducible first | refine W ?_ | refine Z0 ?_ | ((first | refine Wo fun K hK => ?_ | refine Wp ?_ | refine Wq ?_ | refine Wr ?_); (try simp only [go_sem, fN, seval, eT, iR, e0, e1, e2, e3, e9, e18, e19, s11, s90, hlt, hLl, hlt2', dT, dF, nL]); (repeat refine Ai ?_); (try (refine hK _ ?_; clear hK K)); try refine iC ?_)
   refine CC (vs := [.one (.ptr 2023 1 0 0)]) (by simp [CY, outV, outC, stC]) rfl hS hS1 hf ?_
   have t23 : BD S1 (BG S (Kn ++ [Lm.nil])) 2023 = some (Ag 2021 (Kn.length + 1)) := by rw [Ah (by decide), El, List.length_append]; rfl
   have t21 : BD S1 (BG S (Kn ++ [Lm.nil])) 2021 = some (Ad (Kn ++ [Lm.nil])) := by rw [Ah (by decide), Ed]
   have t11 : BD S1 (BG S (Kn ++ [Lm.nil])) 11 = none := by rw [Aw (by decide), s11]
   have t90 : BD S1 (BG S (Kn ++ [Lm.nil])) 90 = some (.arow 3 1 (L.map DQ)) := by rw [Aw (by decide), s90]
   have tj : ∀ j, 1000 ≤ j → j ≠ 2023 → j ≠ 2021 → BD S1 (BG S (Kn ++ [Lm.nil])) j = S j := fun j hj h1 h2 => by rw [Ah hj, Cx h1 h2]
   have hil : i < Kn.length + 1 := by omega
   have hK1l : ((Kn ++ [Lm.nil]).map Af).length = Kn.length + 1 := by rw [List.length_map, List.length_append]; rfl
   obtain ⟨k0, hk0⟩ := A1 (show i < (Kn ++ [Lm.nil]).length by rw [List.length_append]; show i < Kn.length + 1; omega)
   generalize BD S1 (BG S (Kn ++ [Lm.nil])) = S2 at *
   repeat' (first | (with_reducible first | refine W ?_ | refine Z0 ?_ | ((first | refine Wo fun K hK => ?_ | refine Wp ?_ | refine Wq ?_ | refine Wr ?_); (try simp only [go_sem, fN, seval, eT, iR, e0, e1, e2, e3, e9, e18, e19, t11, t21, t23, t90, hlt, hLl, hK1l, hil, hk0, AD, dT, dF, nL]); (repeat refine Ai ?_); (try (refine hK _ ?_; clear hK K)); try refine iC ?_)) | refine Cg _ (hc1) ?_ | refine Cg _ (hc2) ?_ | refine Cg _ (hc3) ?_)
   refine AT (An true) (A0 (G := 2023) (KB := 2021) hS (by decide) (by decide)) trivial ?_ rfl fun j hj => ?_
   ·simp only [go_sem, fN, seval, eT, iR, AG, AH, AY]
   ·by_cases h1 : j = 2021
    ·subst h1
     rw [Ed]
     simp only [go_sem, fN, seval, eT, iR, Ad, List.map_set, AD]
    ·by_cases h2 : j = 2023
     ·subst h2
      rw [El, List.length_set, List.length_append]
      simp only [go_sem, fN, seval, eT, iR, t23]
     ·have hj2 := tj j hj h2 h1
      rw [Cx h2 h1]
      simp only [go_sem, fN, seval, eT, iR, AU, hj, h1, hj2]
  ·rw [if_neg hlt2] at hm
   cases hm
   have hlt2' : ¬ ((L.length : Nat) : Int) < x.length := by omega
   repeat' with_reducible first | refine W ?_ | refine Z0 ?_ | ((first | refine Wo fun K hK => ?_ | refine Wp ?_ | refine Wq ?_ | refine Wr ?_); (try simp only [go_sem, fN, seval, eT, iR, e0, e1, e2, e3, e9, e18, e19, s11, s90, hlt, hLl, hlt2', dT, dF, nL]); (repeat refine Ai ?_); (try (refine hK _ ?_; clear hK K)); try refine iC ?_)
   rw [hself]
   refine AT (An true) hS trivial ?_ rfl hS1
   simp only [go_sem, fN, seval, eT, iR, AG, AH, AY]

set_option maxHeartbeats 8000000
abbrev BW (es : List (Int × Int)) : AF := .map (some (.int .i64)) (es.map fun p => (.i p.1, AQ p.2))
theorem DG : ∀ (es : List (Int × Int)) (k : Int), CX (es.map fun p => ((.i p.1 : KV), AQ p.2)) (.i k) = (Dh es k).map AQ
 | [], k => rfl
 | p :: es, k => by
  rw [List.map_cons, CX, Dh, DG es k]
  by_cases h : p.1 = k
  ·rw [if_pos h, if_pos (by rw [h])]; rfl
  ·rw [if_neg h, if_neg (fun e => h (KV.i.inj e))]
theorem EE : ∀ (es : List (Int × Int)) (k v : Int), Gw (es.map fun p => ((.i p.1 : KV), AQ p.2)) (.i k) (AQ v) = (D3 es k v).map fun p => ((.i p.1 : KV), AQ p.2)
 | [], k, v => rfl
 | p :: es, k, v => by
  rw [List.map_cons, Gw, D3, EE es k v]
  by_cases h : p.1 = k
  ·rw [if_pos h, if_pos (by rw [h]), h]; rfl
  ·rw [if_neg h, if_neg (fun e => h (KV.i.inj e))]; rfl
theorem Mp (es : List (Int × Int)) : (some (BW es)).map (AF.ren up1) = some (BW es) := rfl
theorem IWP.atT {P : Program} {C : Ctx} {mu : List Nat} {x : IR} {Q : AX → AS → Prop} {env0 : Nat → AV} {S0 : AA} (M : (Nat → AV) → AA → Prop) (hM : M env0 S0) (h : ∀ env S, M env S → IWP P C mu x Q ⟨env, S⟩) : IWP P C mu x Q ⟨env0, S0⟩ := h _ _ hM
theorem Iu : ∀ {es : List (Int × Int)} {k v : Int}, Dh es k = some v → ∃ p ∈ es, p.2 = v
 | [], _, _, h => by cases h
 | p :: es, k, v, h => by
  unfold Dh at h
  split at h
  ·exact ⟨p, by simp, by simpa using h⟩
  ·obtain ⟨q, hq, e⟩ := Iu h
   exact ⟨q, by simp [hq], e⟩
theorem HV (T : AA) (G KB : Nat) (Kn : List Lm) (hG : T G = some (Ag KB Kn.length)) (hK : T KB = some (Ad Kn)) {f : Nat} {t u : Lm} (hu : Dy f Kn t = some u) : Aj Tryd.prog 34 [.one (.ptr (up1 G) 1 0 0), aLm t] (upS T) (aLm u) (upS T) :=
 N1 (upS T) (up1 G) (up1 KB) (BR _) (BR _) Kn (by rw [BS, hG]; rfl) (by rw [BS, hK]; rfl) f t u hu
theorem NQ (S : AA) (A B D M : Nat) (e1 e2 e3 : TypeId) (i d n : Int) (es : List (Int × Int)) (hA : 1000 ≤ A) (hB : 1000 ≤ B) (hD : 1000 ≤ D) (hM : 1000 ≤ M) (hi : 0 ≤ i ∧ i ≤ 1000000000) (hd : 0 ≤ d ∧ d ≤ 100) (hn : 0 ≤ n ∧ n ≤ 100) (hes : es.all (fun p => decide (0 ≤ p.2 ∧ p.2 ≤ 100)) = true)
  (sA : S A = some (.box e1 [.st (.int .i64 d)])) (sB : S B = some (.box e2 [.mptr M])) (sD : S D = some (.box e3 [.st (.int .i64 n)])) (sM : S M = some (BW es)) :
  Aj Tryd.prog 74 [AQ i, .one (.ptr A 1 0 0), .one (.ptr B 1 0 0), .one (.ptr D 1 0 0)] S (.tup [aLm (BE es n d i).1, An (BE es n d i).2]) S := by
 refine Bz.acS fun hS C hC => ?_
 unfold BO
 have n5 := AZ hS (i := 5) (by omega)
 have hg := DG es (i - d)
 unfold BE
 by_cases hid : i < d
 ·rw [if_pos hid]
  repeat' (first | (with_reducible first | refine W ?_ | refine Z0 ?_ | ((first | refine Wo fun K hK => ?_ | refine Wp ?_ | refine Wq ?_ | refine Wr ?_); (try simp only [go_sem, fN, seval, eT, iR, AS.startS, n5, sA, sB, sD, sM, hA, hB, hD, hM, AU, BZ, hid, dT, dF, nL]); (repeat refine Ai ?_); (try (refine hK _ ?_; clear hK K)); try refine iC ?_)) | refine Cg _ (Jd i) ?_)
  refine AT (.tup [aLm (.mk 1 i []), An true]) hS trivial ?_ rfl fun j hj => ?_
  ·simp only [go_sem, fN, seval, eT, iR, AG, AH, AY]
   rfl
  ·simp only [go_sem, fN, seval, eT, iR, AU, hj]
 ·rw [if_neg hid]
  cases hgk : Dh es (i - d) with
  | none =>
   rw [hgk] at hg
   repeat' (first | (with_reducible first | refine W ?_ | refine Z0 ?_ | ((first | refine Wo fun K hK => ?_ | refine Wp ?_ | refine Wq ?_ | refine Wr ?_); (try simp only [go_sem, fN, seval, eT, iR, AS.startS, n5, sA, sB, sD, sM, hA, hB, hD, hM, AU, BZ, hid, hg, Ej, Bq, DW, KV.of, KV.of1, dT, dF, nL]); (repeat refine Ai ?_); (try (refine hK _ ?_; clear hK K)); try refine iC ?_)) | refine Cg _ (Jd (d + n - 1 - 0)) ?_)
   refine AT (.tup [aLm (.mk 1 (d + n - 1 - 0) []), An false]) hS trivial ?_ rfl fun j hj => ?_
   ·simp only [go_sem, fN, seval, eT, iR, AG, AH, AY]
    rfl
   ·simp only [go_sem, fN, seval, eT, iR, AU, hj]
  | some k =>
   rw [hgk] at hg
   have hk : 0 ≤ k ∧ k ≤ 100 := by
    obtain ⟨p, hp, rfl⟩ := Iu hgk
    have := List.all_eq_true.1 hes p hp
    simpa using this
   repeat' (first | (with_reducible first | refine W ?_ | refine Z0 ?_ | ((first | refine Wo fun K hK => ?_ | refine Wp ?_ | refine Wq ?_ | refine Wr ?_); (try simp only [go_sem, fN, seval, eT, iR, AS.startS, n5, sA, sB, sD, sM, hA, hB, hD, hM, AU, BZ, hid, hg, Ej, Bq, DW, KV.of, KV.of1, dT, dF, nL]); (repeat refine Ai ?_); (try (refine hK _ ?_; clear hK K)); try refine iC ?_)) | refine Cg _ (Jd (d + n - 1 - k)) ?_)
   refine AT (.tup [aLm (.mk 1 (d + n - 1 - k) []), An true]) hS trivial ?_ rfl fun j hj => ?_
   ·simp only [go_sem, fN, seval, eT, iR, AG, AH, AY]
    rfl
   ·simp only [go_sem, fN, seval, eT, iR, AU, hj]

end Go.Proofs.YtcgnojefbalbbaaDoor
