/-
  Part 9 of the texts. Conditions: none.
-/
import Derived.Test.YtgcddcaachpbnaaGreatReM8
namespace Go.Proofs.YtgcddcaachpbnaaGreat
open Go Go.RowKit
set_option linter.unusedVariables false
set_option linter.unusedSimpArgs false
set_option maxHeartbeats 800000
def Fe (u : Tm) (left : Int) : Tm × Int := if (u.size : Int) ≤ left then (u, left - u.size) else (Tm.nil, -1)
abbrev HR (s : List Bd) (left : Int) : AL := .box 141 [.st (.list (s.map CS)), .st (.int .i64 left)]
theorem Hr {u : Tm} {left : Int} (h : (u.size : Int) ≤ left) : Fe u left = (u, left - u.size) := if_pos h
theorem Hg {u : Tm} {left : Int} (h : ¬ (u.size : Int) ≤ left) : Fe u left = (Tm.nil, -1) := if_neg h
theorem LD (s : List Bd) (h40 : s.length ≤ 100000) (ho : Bh s) (turn : Bool) (f : Tm → Tm) (t : Tm) (hl : turn = true → lookup s t.name = none)
  (ih : ∀ a ∈ t.args, ∀ (a0 : Nat) (left : Int) (S : AA), 1000 ≤ a0 → 0 ≤ left → left ≤ 1000000 → S a0 = some (HR s left) →
   As Tryz.prog 109 [.one (.ptr a0 1 0 0), aTm a, Ad turn] S (aTm (Fe (f a) left).1) (AG S a0 (some (HR s (Fe (f a) left).2))))
  (a0 : Nat) (left : Int) (S : AA) (ha0 : 1000 ≤ a0) (h0 : 0 ≤ left) (h1 : left ≤ 1000000) (hSa : S a0 = some (HR s left)) :
  As Tryz.prog 109 [.one (.ptr a0 1 0 0), aTm t, Ad turn] S (aTm (Fe (.mk t.name (t.args.map f)) left).1) (AG S a0 (some (HR s (Fe (.mk t.name (t.args.map f)) left).2))) := by
 refine B5.acS fun hS C hC => ?_
 have hu : (Tm.mk t.name (t.args.map f)).size = 1 + Tm.sizes (t.args.map f) := rfl
 have hlen := Tm.length_le (t.args.map f)
 rw [List.length_map] at hlen
 have n4 : S 4 = none := Aj hS (by omega)
 have n6 : S 6 = none := Aj hS (by omega)
 have n7 : S 7 = none := Aj hS (by omega)
 have n9 : S 9 = none := Aj hS (by omega)
 have n11 : S 11 = none := Aj hS (by omega)
 have n900 : S 900 = none := Aj hS (by omega)
 have d4 : ¬ 4 = a0 := by omega
 have d6 : ¬ 6 = a0 := by omega
 have d7 : ¬ 7 = a0 := by omega
 have d9 : ¬ 9 = a0 := by omega
 have d11 : ¬ 11 = a0 := by omega
 have d900 : ¬ 900 = a0 := by omega
 have e4 : ¬ a0 = 4 := by omega
 have e6 : ¬ a0 = 6 := by omega
 have e7 : ¬ a0 = 7 := by omega
 have e9 : ¬ a0 = 9 := by omega
 have e11 : ¬ a0 = 11 := by omega
 have e900 : ¬ a0 = 900 := by omega
 unfold BT
 cases turn
 case' false =>
  repeat' with_reducible first | refine W ?_ | refine Z0 ?_ | ((first | refine Wo fun K hK => ?_ | refine Wq ?_ | refine Wr ?_); (try simp only [go_sem, fN, seval, eT, iR, hSa, n4, n6, n7, d4, d6, d7, e4, e6, e7]); (repeat refine Ai ?_); (try (refine hK _ ?_; clear hK K)))
  with_reducible refine Wp ?_
  simp only [go_sem, fN, seval, true_implies, false_implies, implies_true, dT, dF, nL]
  (try with_reducible refine iC ?_)
  repeat' with_reducible first | refine W ?_ | refine Z0 ?_ | ((first | refine Wo fun K hK => ?_ | refine Wq ?_ | refine Wr ?_); (try simp only [go_sem, fN, seval, eT, iR, hSa, n4, n6, n7, n9, d4, d6, d7, d9, e4, e6, e7, e9]); (repeat refine Ai ?_); (try (refine hK _ ?_; clear hK K)))
 case' true =>
  have hln := hl rfl
  repeat' with_reducible first | refine W ?_ | refine Z0 ?_ | ((first | refine Wo fun K hK => ?_ | refine Wq ?_ | refine Wr ?_); (try simp only [go_sem, fN, seval, eT, iR, hSa, n4, n6, n7, d4, d6, d7, e4, e6, e7]); (repeat refine Ai ?_); (try (refine hK _ ?_; clear hK K)))
  with_reducible refine Wp ?_
  simp only [go_sem, fN, seval, true_implies, false_implies, implies_true, dT, dF, nL]
  (try with_reducible refine iC ?_)
  repeat' (first | (with_reducible first | refine W ?_ | refine Z0 ?_ | ((first | refine Wo fun K hK => ?_ | refine Wq ?_ | refine Wr ?_); (try simp only [go_sem, fN, seval, eT, iR, hSa, n4, n6, n7, d4, d6, d7, e4, e6, e7, hln]); (repeat refine Ai ?_); (try (refine hK _ ?_; clear hK K)))) | refine Cg _ (SZ s h40 ho t.name) ?_)
  with_reducible refine Wp ?_
  simp only [go_sem, fN, seval, true_implies, false_implies, implies_true, dT, dF, nL]
  (try with_reducible refine iC ?_)
  repeat' with_reducible first | refine W ?_ | refine Z0 ?_ | ((first | refine Wo fun K hK => ?_ | refine Wq ?_ | refine Wr ?_); (try simp only [go_sem, fN, seval, eT, iR, hSa, n4, n6, n7, n9, d4, d6, d7, d9, e4, e6, e7, e9]); (repeat refine Ai ?_); (try (refine hK _ ?_; clear hK K)))
 all_goals
  by_cases hz : left = 0
  ·subst hz
   have hno : ¬ ((Tm.mk t.name (t.args.map f)).size : Int) ≤ 0 := by rw [hu]; omega
   rw [Hg hno]
   with_reducible refine Wp ?_
   simp only [go_sem, fN, seval, true_implies, false_implies, implies_true, dT, dF, nL]
   (try with_reducible refine iC ?_)
   repeat' with_reducible first | refine W ?_ | refine Z0 ?_ | ((first | refine Wo fun K hK => ?_ | refine Wq ?_ | refine Wr ?_); (try simp only [go_sem, fN, seval, eT, iR, hSa, n4, n6, n7, n9, d4, d6, d7, d9, e4, e6, e7, e9]); (repeat refine Ai ?_); (try (refine hK _ ?_; clear hK K)))
   refine Cy (.agg [.st (.str ⟨#[]⟩), .full []]) hS ha0 rfl trivial ?_ ?_ ?_ fun i hi hne => ?_
   ·simp only [go_sem, fN, seval, eT, iR, AB, AD, AI, e4, e6, e7, e9, d4, d6, d7, d9]
   ·simp only [go_sem, fN, seval, eT, iR, Tm.nil]
    rfl
   ·simp only [go_sem, fN, seval, eT, iR, e4, e6, e7, e9]
   ·have i4 : ¬ i = 4 := by omega
    have i6 : ¬ i = 6 := by omega
    have i7 : ¬ i = 7 := by omega
    simp only [go_sem, fN, seval, eT, iR, i4, i6, i7, hne]
  have hz' : ¬ left - 1 < 0 := by omega
  with_reducible refine Wp ?_
  simp only [go_sem, fN, seval, true_implies, false_implies, implies_true, dT, dF, nL, hz']
  (try with_reducible refine iC ?_)
  repeat' with_reducible first | refine W ?_ | refine Z0 ?_ | ((first | refine Wo fun K hK => ?_ | refine Wq ?_ | refine Wr ?_); (try simp only [go_sem, fN, seval, eT, iR, hSa, n4, n6, n7, n9, d4, d6, d7, d9, e4, e6, e7, e9]); (repeat refine Ai ?_); (try (refine hK _ ?_; clear hK K)))
  refine IWP.ghost (Aa.ownC 9 1 900 25 2 (xs := ([] : List Tm).map Al) (by simp only [go_sem, fN, seval, eT, iR, d9, d4, d6, d7, e9]; rfl) rfl (by simp only [go_sem, fN, seval, eT, iR, n900, d900]) C3) ?_
  refine IWP.loopD [11] (fun m x => ∃ k, k ≤ t.args.length ∧ m = t.args.length - k ∧ (Tm.sizes ((t.args.take k).map f) : Int) ≤ left - 1 ∧ x.env 0 = .one (.ptr a0 1 0 0) ∧ x.env 2 = Ad _ ∧ x.env 6 = .one (.ptr 6 1 0 0) ∧ x.env 9 = .one (.ptr 9 1 0 0) ∧ x.env 44 = .one (.st (.list (t.args.map Al))) ∧ x.env 45 = AO t.args.length ∧ x.env 46 = AO k ∧
    x.S 6 = some (.box 25 [.st (.str ⟨#[]⟩), .full []]) ∧ x.S 9 = some (.box 25 [.st (.str t.name), .row 900 k]) ∧ x.S 900 = some (.arow 25 2 (((t.args.take k).map f).map Al)) ∧ x.S 11 = none ∧ x.S a0 = some (HR s (left - 1 - Tm.sizes ((t.args.take k).map f))) ∧ ∀ i, 1000 ≤ i → i ≠ a0 → x.S i = S i)
   t.args.length ⟨0, Nat.zero_le _, rfl, by show (0 : Int) ≤ _; omega, rfl, rfl, rfl, rfl, rfl, rfl, rfl, by simp only [go_sem, fN, seval, eT, iR, d6, d4, d7, d9, e6], by (simp only [go_sem, fN, seval, eT, iR, d9]); rfl, by simp only [go_sem, fN, seval, eT, iR, e9], by simp only [go_sem, fN, seval, eT, iR, n11, d11], by (simp only [go_sem, fN, seval, eT, iR, e9, e900]); simp [Tm.sizes], fun i hi hne => ?_⟩ ?_
  ·have i4 : ¬ i = 4 := by omega
   have i6 : ¬ i = 6 := by omega
   have i7 : ¬ i = 7 := by omega
   have i9 : ¬ i = 9 := by omega
   have i900 : ¬ i = 900 := by omega
   simp only [go_sem, fN, seval, eT, iR, i4, i6, i7, i9, i900, hne]
  rintro m ⟨env, S1⟩ ⟨k, hk, rfl, hsz, e0, e2, e6', e9', e44, e45, e46, s6, s9, s900, s11, sa, hrest⟩
  simp only at e0 e2 e6' e9' e44 e45 e46 s6 s9 s900 s11 sa hrest
  have hlk : (t.args.take k).length = k := by rw [List.length_take]; omega
  have hle := Tm.sizes_take_le (t.args.map f) k
  rw [← List.map_take] at hle
  have hkl := Tm.length_le ((t.args.take k).map f)
  rw [List.length_map, hlk] at hkl
  by_cases hlt : (k : Int) < t.args.length
  ·obtain ⟨a, ha⟩ := Af (show k < t.args.length by omega)
   have ha' : (t.args.map f)[k]? = some (f a) := by rw [List.getElem?_map, ha]; rfl
   have z1 := Tm.sizes_take ha'
   have z2 := Tm.sizes_take_le (t.args.map f) (k + 1)
   rw [← List.map_take, ← List.map_take] at z1
   rw [← List.map_take] at z2
   repeat' with_reducible first | refine W ?_ | refine Z0 ?_ | ((first | refine Wo fun K hK => ?_ | refine Wq ?_ | refine Wr ?_); (try simp only [go_sem, fN, seval, eT, iR, e0, e2, e6', e9', e44, e45, e46, s6, s9, s900, s11, sa, hlt]); (repeat refine Ai ?_); (try (refine hK _ ?_; clear hK K)))
   with_reducible refine Wp ?_
   simp only [go_sem, fN, seval, true_implies, false_implies, implies_true, dT, dF, nL, hlt]
   (try with_reducible refine iC ?_)
   repeat' with_reducible first | refine W ?_ | refine Z0 ?_ | ((first | refine Wo fun K hK => ?_ | refine Wq ?_ | refine Wr ?_); (try simp only [go_sem, fN, seval, eT, iR, e0, e2, e6', e9', e44, e45, e46, s6, s9, s900, s11, sa, d11, d9, e11, ha]); (repeat refine Ai ?_); (try (refine hK _ ?_; clear hK K)))
   have hcall := ih a (AP ha) (up1 a0) (left - 1 - Tm.sizes ((t.args.take k).map f)) (upS (AG (AG S1 11 (some (.box 25 [.st (.str ⟨#[]⟩), .full []]))) 11 (some (.box 25 [.st (.str a.name), .st (.list (a.args.map Al))])))) (BL a0) (by omega) (by omega) (by rw [Bv, AH _ e11, AH _ e11, sa]; rfl)
   by_cases hfit : ((f a).size : Int) ≤ left - 1 - Tm.sizes ((t.args.take k).map f)
   ·rw [Hr hfit] at hcall
    refine ⟨_, _, hcall, ?_⟩
    have hge : ¬ left - 1 - Tm.sizes ((t.args.take k).map f) - (f a).size < 0 := by omega
    repeat' with_reducible first | refine W ?_ | refine Z0 ?_ | ((first | refine Wo fun K hK => ?_ | refine Wq ?_ | refine Wr ?_); (try simp only [go_sem, fN, seval, eT, iR, e0, e2, e6', e9', e44, e45, e46, s6, s9, s900, s11, d11, d9, e11, e9, e900, d900, hlk]); (repeat refine Ai ?_); (try (refine hK _ ?_; clear hK K)))
    with_reducible refine Wp ?_
    simp only [go_sem, fN, seval, true_implies, false_implies, implies_true, dT, dF, nL, hge]
    (try with_reducible refine iC ?_)
    repeat' with_reducible first | refine W ?_ | refine Z0 ?_ | ((first | refine Wo fun K hK => ?_ | refine Wq ?_ | refine Wr ?_); (try simp only [go_sem, fN, seval, eT, iR, e0, e2, e6', e9', e44, e45, e46, s6, s9, s900, s11, d11, d9, e11]); (repeat refine Ai ?_); (try (refine hK _ ?_; clear hK K)))
    refine AF ⟨t.args.length - (k + 1), by omega, k + 1, by omega, rfl, ?_⟩
    have hib : (a0 == 11) = false := by simp; omega
    have hzz : ((Tm.sizes ((t.args.take (k + 1)).map f) : Nat) : Int) = Tm.sizes ((t.args.take k).map f) + (f a).size := by omega
    refine ⟨by omega, ?_⟩
    simp only [go_sem, fN, seval, AS.drop, Ac, AC.clears, AC.clear, AC.highs, AC.high, Bool.not_false, Bool.true_and, Bool.and_self, AV.purge, AV.purges, AC.purge, AL.purge, List.contains_cons, List.contains_nil, Nat.reduceBEq, Bool.or_self, Bool.or_false, Bool.false_or, Bool.or_true, eT, iR, e0, e2, e6', e9', e44, e45, s6, s9, s900, d11, d9, e11, e9, e900, d900, d6, hib]
    refine ⟨by congr 3, by rw [Ak ha, List.map_append, List.map_append, List.map_cons, List.map_nil, List.map_cons, List.map_nil, BI], ?_, fun i hi hne => ?_⟩
    ·congr 5
     omega
    ·have i9 : ¬ i = 9 := by omega
     have i11 : ¬ i = 11 := by omega
     have i900 : ¬ i = 900 := by omega
     have i11b : (i == 11) = false := by simp; omega
     simp only [go_sem, fN, seval, AS.drop, Ac, AC.clears, AC.clear, AC.highs, AC.high, Bool.not_false, Bool.true_and, Bool.and_self, AV.purge, AV.purges, AC.purge, AL.purge, List.contains_cons, List.contains_nil, Nat.reduceBEq, Bool.or_self, Bool.or_false, Bool.false_or, Bool.or_true, eT, iR, i9, i11, i11b, i900, hne]
     rw [hrest i hi hne]
     exact PA (by decide) fun b hb => (hS i b hb).2
   ·have hno : ¬ ((Tm.mk t.name (t.args.map f)).size : Int) ≤ left := by rw [hu]; omega
    rw [Hg hfit] at hcall
    refine ⟨_, _, hcall, ?_⟩
    repeat' with_reducible first | refine W ?_ | refine Z0 ?_ | ((first | refine Wo fun K hK => ?_ | refine Wq ?_ | refine Wr ?_); (try simp only [go_sem, fN, seval, eT, iR, e0, e2, e6', e9', e44, e45, e46, s6, s9, s900, s11, d11, d9, e11, e9, e900, d900, hlk]); (repeat refine Ai ?_); (try (refine hK _ ?_; clear hK K)))
    with_reducible refine Wp ?_
    simp only [go_sem, fN, seval, true_implies, false_implies, implies_true, dT, dF, nL]
    (try with_reducible refine iC ?_)
    repeat' with_reducible first | refine W ?_ | refine Z0 ?_ | ((first | refine Wo fun K hK => ?_ | refine Wq ?_ | refine Wr ?_); (try simp only [go_sem, fN, seval, eT, iR, e0, e2, e6', e9', e44, e45, e46, s6, s9, s900, s11, d11, d9, e11, e6, d6, d900, e900]); (repeat refine Ai ?_); (try (refine hK _ ?_; clear hK K)))
    rw [Hg hno]
    refine Cy (.agg [.st (.str ⟨#[]⟩), .full []]) hS ha0 rfl trivial ?_ ?_ ?_ fun i hi hne => ?_
    ·simp only [go_sem, fN, seval, eT, iR, AB, AD, AI, e6', s6, e6, e9, e11, e900, d6, d9, d11, d900]
    ·simp only [go_sem, fN, seval, eT, iR, Tm.nil]
     rfl
    ·simp only [go_sem, fN, seval, eT, iR, e6, e9, e11, e900]
    ·have i6 : ¬ i = 6 := by omega
     have i9 : ¬ i = 9 := by omega
     have i11 : ¬ i = 11 := by omega
     have i900 : ¬ i = 900 := by omega
     simp only [go_sem, fN, seval, eT, iR, i6, i9, i11, i900, hne]
     exact hrest i hi hne
  ·have hall : t.args.take k = t.args := List.take_of_length_le (by omega)
   rw [hall] at hlk s900 hsz sa
   have hyes : ((Tm.mk t.name (t.args.map f)).size : Int) ≤ left := by rw [hu]; omega
   repeat' with_reducible first | refine W ?_ | refine Z0 ?_ | ((first | refine Wo fun K hK => ?_ | refine Wq ?_ | refine Wr ?_); (try simp only [go_sem, fN, seval, eT, iR, e0, e2, e6', e9', e44, e45, e46, s6, s9, s900, s11, sa, hlt]); (repeat refine Ai ?_); (try (refine hK _ ?_; clear hK K)))
   with_reducible refine Wp ?_
   simp only [go_sem, fN, seval, true_implies, false_implies, implies_true, dT, dF, nL, hlt]
   (try with_reducible refine iC ?_)
   repeat' with_reducible first | refine W ?_ | refine Z0 ?_ | ((first | refine Wo fun K hK => ?_ | refine Wq ?_ | refine Wr ?_); (try simp only [go_sem, fN, seval, eT, iR, e0, e2, e6', e9', e44, e45, e46, s6, s9, s900, s11, sa, d6]); (repeat refine Ai ?_); (try (refine hK _ ?_; clear hK K)))
   rw [Hr hyes]
   refine Cy (.agg [.st (.str t.name), .row 900 k]) hS ha0 rfl trivial ?_ ?_ ?_ fun i hi hne => ?_
   ·simp only [go_sem, fN, seval, eT, iR, AB, AD, AI, e6', s6]
   ·simp only [go_sem, fN, seval, eT, iR, s900, hlk]
    rfl
   ·simp only [go_sem, fN, seval, eT, iR, e6, sa, hu]
    rw [show left - 1 - (Tm.sizes (t.args.map f) : Int) = left - ((1 + Tm.sizes (t.args.map f) : Nat) : Int) by omega]
   ·have i6 : ¬ i = 6 := by omega
    simp only [go_sem, fN, seval, eT, iR, i6]
    exact hrest i hi hne
theorem Tz (s : List Bd) (h40 : s.length ≤ 100000) (ho : Bh s) (t : Tm) : ∀ (a0 : Nat) (left : Int) (S : AA), 1000 ≤ a0 → 0 ≤ left → left ≤ 1000000 → S a0 = some (HR s left) →
  As Tryz.prog 109 [.one (.ptr a0 1 0 0), aTm t, Ad false] S (aTm (Fe t left).1) (AG S a0 (some (HR s (Fe t left).2))) := by
 induction h : SizeOf.sizeOf t using Nat.strongRecOn generalizing t with
 | _ N ih =>
 subst h
 intro a0 left S h1 h2 h3 h4
 have := LD s h40 ho false id t (fun h => by cases h) (fun a ha => ih _ (Tm.lt_of_arg ha) a rfl) a0 left S h1 h2 h3 h4
 rw [List.map_id, Tm.eta] at this
 exact this
theorem TX (s : List Bd) (h40 : s.length ≤ 100000) (ho : Bh s) (t : Tm) (hv : ∀ b ∈ s, A0 b.1 = true) (hchk : t.chk = 0) : ∀ (a0 : Nat) (left : Int) (S : AA), 1000 ≤ a0 → 0 ≤ left → left ≤ 1000000 → S a0 = some (HR s left) →
  As Tryz.prog 109 [.one (.ptr a0 1 0 0), aTm t, Ad true] S (aTm (Fe (t.on s) left).1) (AG S a0 (some (HR s (Fe (t.on s) left).2))) := by
 induction h : SizeOf.sizeOf t using Nat.strongRecOn generalizing t with
 | _ N ih =>
 subst h
 intro a0 left S ha0 h0 h1 hSa
 obtain ⟨c1, c2⟩ := Tm.chk_args hchk
 cases hl : lookup s t.name with
 | none =>
  have := LD s h40 ho true (Tm.on s) t (fun _ => hl) (fun a ha => ih _ (Tm.lt_of_arg ha) a (c2 a ha) rfl) a0 left S ha0 h0 h1 hSa
  rw [← Tm.on_knot (.inl hl)] at this
  exact this
 | some x =>
  obtain ⟨b, hb, hbn, _⟩ := J3 hl
  have hargs := c1 (by rw [← hbn]; exact hv b hb)
  rw [Tm.on_leaf hl hargs]
  refine B5.acS fun hS C hC => ?_
  have n4 : S 4 = none := Aj hS (by omega)
  have n6 : S 6 = none := Aj hS (by omega)
  have n7 : S 7 = none := Aj hS (by omega)
  have e4 : ¬ a0 = 4 := by omega
  have e6 : ¬ a0 = 6 := by omega
  have e7 : ¬ a0 = 7 := by omega
  have d4 : ¬ 4 = a0 := by omega
  have d6 : ¬ 6 = a0 := by omega
  have d7 : ¬ 7 = a0 := by omega
  unfold BT
  repeat' with_reducible first | refine W ?_ | refine Z0 ?_ | ((first | refine Wo fun K hK => ?_ | refine Wq ?_ | refine Wr ?_); (try simp only [go_sem, fN, seval, eT, iR, hSa, n4, n6, n7, d4, d6, d7, e4, e6, e7]); (repeat refine Ai ?_); (try (refine hK _ ?_; clear hK K)))
  with_reducible refine Wp ?_
  simp only [go_sem, fN, seval, true_implies, false_implies, implies_true, dT, dF, nL]
  (try with_reducible refine iC ?_)
  repeat' (first | (with_reducible first | refine W ?_ | refine Z0 ?_ | ((first | refine Wo fun K hK => ?_ | refine Wq ?_ | refine Wr ?_); (try simp only [go_sem, fN, seval, eT, iR, hSa, n4, n6, n7, d4, d6, d7, e4, e6, e7, hl]); (repeat refine Ai ?_); (try (refine hK _ ?_; clear hK K)))) | refine Cg _ (SZ s h40 ho t.name) ?_)
  with_reducible refine Wp ?_
  simp only [go_sem, fN, seval, true_implies, false_implies, implies_true, dT, dF, nL]
  (try with_reducible refine iC ?_)
  repeat' with_reducible first | refine W ?_ | refine Z0 ?_ | ((first | refine Wo fun K hK => ?_ | refine Wq ?_ | refine Wr ?_); (try simp only [go_sem, fN, seval, eT, iR, hSa, n4, n6, n7, d4, d6, d7, e4, e6, e7]); (repeat refine Ai ?_); (try (refine hK _ ?_; clear hK K)))
  have hcall := fun S' h => Tz s h40 ho x (up1 a0) left S' (BL a0) h0 h1 h
  refine ⟨_, _, hcall _ (by rw [Bv]; (simp only [go_sem, fN, seval, eT, iR, e4, e6, e7, hSa])), ?_⟩
  repeat' with_reducible first | refine W ?_ | refine Z0 ?_ | ((first | refine Wo fun K hK => ?_ | refine Wq ?_ | refine Wr ?_); (try simp only [go_sem, fN, seval, eT, iR, e4, e6, e7, d4, d6, d7]); (repeat refine Ai ?_); (try (refine hK _ ?_; clear hK K)))
  refine Cy (aTm (Fe x left).1) hS ha0 rfl trivial ?_ ?_ ?_ fun i hi hne => ?_
  ·simp only [go_sem, fN, seval, eT, iR, AB, AD, AI, e4, e6, e7, d4, d6, d7]
  ·simp only [go_sem, fN, seval, eT, iR]
  ·simp only [go_sem, fN, seval, eT, iR, e4, e6, e7]
  ·have i4 : ¬ i = 4 := by omega
   have i6 : ¬ i = 6 := by omega
   have i7 : ¬ i = 7 := by omega
   simp only [go_sem, fN, seval, eT, iR, i4, i6, i7, hne]
theorem Uy (s : List Bd) (h40 : s.length ≤ 100000) (ho : Bh s) (t : Tm) (hv : ∀ b ∈ s, A0 b.1 = true) (hchk : t.chk = 0) : AN Tryz.prog 81 [Ft s, aTm t] (.tup [aTm (Bw s t).1, Ad (Bw s t).2]) := by
 refine NW.ac fun C hC => ?_
 unfold IZ
 repeat' with_reducible first | refine W ?_ | refine Z0 ?_ | ((first | refine Wo fun K hK => ?_ | refine Wq ?_ | refine Wr ?_); (try simp only [go_sem, fN, seval, eT, iR]); (repeat refine Ai ?_); (try (refine hK _ ?_; clear hK K)))
 have hcall := fun S' h => TX s h40 ho t hv hchk (up1 10) 2000 S' (BL 10) (by omega) (by omega) h
 refine ⟨_, _, hcall _ (by rw [Bv]; rfl), ?_⟩
 by_cases hfit : ((t.on s).size : Int) ≤ 2000
 ·have e : Bw s t = (t.on s, true) := by
   unfold Bw
   rw [if_pos (by omega)]
  rw [Hr hfit]
  have hge : (0 : Int) ≤ 2000 - (t.on s).size := by omega
  repeat' with_reducible first | refine W ?_ | refine Z0 ?_ | ((first | refine Wo fun K hK => ?_ | refine Wq ?_ | refine Wr ?_); (try simp only [go_sem, fN, seval, eT, iR, hge]); (repeat refine Ai ?_); (try (refine hK _ ?_; clear hK K)))
  rw [e]
  simp only [go_sem, fN, seval, AK, AS.result, AB, AD, AI]
 ·have e : Bw s t = (Tm.nil, false) := by
   unfold Bw
   rw [if_neg (by omega)]
  rw [Hg hfit]
  repeat' with_reducible first | refine W ?_ | refine Z0 ?_ | ((first | refine Wo fun K hK => ?_ | refine Wq ?_ | refine Wr ?_); (try simp only [go_sem, fN, seval, eT, iR]); (repeat refine Ai ?_); (try (refine hK _ ?_; clear hK K)))
  rw [e]
  simp only [go_sem, fN, seval, AK, AS.result, AB, AD, AI]

set_option maxRecDepth 100000
def HI : IR :=
 (.seq (.ops [.i 1 (.box 25 (.t 0)), .i 2 (.mov (.n 0))]) (.seq (.ops [.i 3 (.mov (.n 1))]) (.seq (.seq (.ops [.f 6 1 1, .l 7 6, .i 8 (.len false (.t 7)), .i 9 (.mov (.n 0))]) (.block 0 (.loop (.seq (.ops [.i 10 (.bin .lss (.t 9) (.t 8))]) (.seq (.cond (.t 10) .skip (.exit 0)) (.seq (.block 1 (.seq (.ops [.i 11 (.indexAddr 2 (.t 7) (.t 9)), .L 12 2 11, .i 5 (.alloc 25 [.st (.str (ByteArray.mk (#[]))), .full []]), .s 2 5 12]) (.ops [.m 13 3, .L 14 2 5, .i 15 (.call 54 [.t 14]), .i 16 (.bin .add (.t 13) (.t 15)), .m 3 16]))) (.ops [.i 17 (.bin .add (.t 9) (.n 1)), .m 9 17]))))))) (.seq (.ops [.m 18 3, .m 2 18]) .ret))))
theorem Me : OkF Tryz.prog 54 19 [] HI [.t 2] := .of Tryz.func54 rfl rfl (by kernel_rfl) rfl

theorem JE (t : Tm) (hz : t.size ≤ 1000000) : AN Tryz.prog 54 [aTm t] (AO t.size) := by
 induction h : SizeOf.sizeOf t using Nat.strongRecOn generalizing t with
 | _ N ih =>
 subst h
 have hs := Tm.size_eq t
 have hln := Tm.length_le t.args
 refine Me.ac fun C hC => ?_
 unfold HI
 repeat' with_reducible first | refine W ?_ | refine Z0 ?_ | ((first | refine Wo fun K hK => ?_ | refine Wp ?_ | refine Wq ?_ | refine Wr ?_); (try simp only [go_sem, fN, seval, eT, iR, dT, dF, nL]); (repeat refine Ai ?_); (try (refine hK _ ?_; clear hK K)); try refine iC ?_)
 refine IWP.loopD [5] (fun m s => ∃ k, k ≤ t.args.length ∧ m = t.args.length - k ∧ s.env 3 = AO ((1 + Tm.sizes (t.args.take k) : Nat) : Int) ∧ s.env 7 = FH t.args ∧ s.env 8 = AO t.args.length ∧ s.env 9 = AO k ∧ s.S 5 = none) t.args.length ⟨0, Nat.zero_le _, rfl, rfl, rfl, rfl, rfl, rfl⟩ ?_
 rintro m ⟨env, S⟩ ⟨k, hk, rfl, e3, e7, e8, e9, s5⟩
 simp only at e3 e7 e8 e9 s5
 by_cases hlt : (k : Int) < t.args.length
 ·obtain ⟨a, ha⟩ := Af (show k < t.args.length by omega)
  have h1 := Tm.sizes_take ha
  have h2 := Tm.sizes_take_le t.args (k + 1)
  repeat' (first | (with_reducible first | refine W ?_ | refine Z0 ?_ | ((first | refine Wo fun K hK => ?_ | refine Wp ?_ | refine Wq ?_ | refine Wr ?_); (try simp only [go_sem, fN, seval, eT, iR, e3, e7, e8, e9, s5, hlt, ha, dT, dF, nL]); (repeat refine Ai ?_); (try (refine hK _ ?_; clear hK K)); try refine iC ?_)) | refine Cg _ (ih _ (Tm.lt_of_arg (AP ha)) a (by omega) rfl) ?_)
  refine AF ⟨t.args.length - (k + 1), by omega, k + 1, by omega, rfl, ?_⟩
  simp only [go_sem, fN, seval, AS.drop, Ac, AC.clears, AC.clear, AC.highs, AC.high, Bool.not_false, Bool.true_and, Bool.and_self, AV.purge, AV.purges, AC.purge, AL.purge, List.contains_cons, List.contains_nil, Nat.reduceBEq, Bool.or_self, Bool.or_false, Bool.false_or, Bool.or_true, eT, iR, e3, e7, e8, e9, s5]
  exact ⟨by rw [h1]; congr 3; omega, by congr 3⟩
 ·repeat' with_reducible first | refine W ?_ | refine Z0 ?_ | ((first | refine Wo fun K hK => ?_ | refine Wp ?_ | refine Wq ?_ | refine Wr ?_); (try simp only [go_sem, fN, seval, eT, iR, e3, e7, e8, e9, hlt, dT, dF, nL]); (repeat refine Ai ?_); (try (refine hK _ ?_; clear hK K)); try refine iC ?_)
  simp only [go_sem, fN, seval, AK, AS.result, AB, AD, AI]
  rw [List.take_of_length_le (by omega), hs]

set_option maxHeartbeats 1000000
theorem Jf (l : List Tm) (h0 : 0 < l.length) (hl : l.length ≤ 1000000) : Ev Tryz.prog 98 [FH l] 25 2 (l.map Al) true := by
 unfold Ev
 rw [List.length_map]
 refine BW.acS fun hS C hC => ?_
 unfold A2
 have h0' : ¬ l.length = 0 := by omega
 have hb : l.length * 40 ≤ 140737488355328 := by omega
 repeat' with_reducible first | refine W ?_ | refine Z0 ?_ | ((first | refine Wo fun K hK => ?_ | refine Wp ?_ | refine Wq ?_ | refine Wr ?_); (try simp only [go_sem, fN, seval, eT, iR, h0', hb, dT, dF, nL]); (repeat refine Ai ?_); (try (refine hK _ ?_; clear hK K)); try refine iC ?_)
 exact Uz (mu := true) trivial 7 (by decide) rfl (fun i hi => by show AG _ _ _ _ = _; rw [AH _ (by omega)]; rfl) rfl
def G6 (r : Tm × Int × Int) : AV := .tup [aTm r.1, AO r.2.1, AO r.2.2]
theorem PC {R : List Pr} (hR : A1 R) (t : Tm) (hc : t.chk = 0) (hz : t.size ≤ 1000000) (f : Nat) (hf : f ≤ R.length) : AN Tryz.prog 53 [Bg R, aTm t, AO f] (G6 (D4 t f (R.drop f))) := by
 unfold G6
 have h40 := hR.len
 refine Iv.ac fun C hC => ?_
 unfold FB
 repeat' with_reducible first | refine W ?_ | refine Z0 ?_ | ((first | refine Wo fun K hK => ?_ | refine Wp ?_ | refine Wq ?_ | refine Wr ?_); (try simp only [go_sem, fN, seval, eT, iR, dT, dF, nL]); (repeat refine Ai ?_); (try (refine hK _ ?_; clear hK K)); try refine iC ?_)
 refine IWP.loop (fun m s => ∃ k, k ≤ R.length ∧ m = R.length - k ∧ D4 t f (R.drop f) = D4 t k (R.drop k) ∧ s.env 0 = Bg R ∧ s.env 4 = .one (.ptr 4 1 0 0) ∧ s.env 6 = .one (.ptr 6 1 0 0) ∧ s.S 4 = some (.box 25 [.st (.str t.name), .st (.list (t.args.map Al))]) ∧ s.S 6 = some (.box 25 [.st (.str ⟨#[]⟩), .full []]) ∧ s.S 12 = none ∧ s.env 9 = AO k) (R.length - f) ⟨f, hf, rfl, rfl, rfl, rfl, rfl, rfl, rfl, rfl, rfl⟩ ?_
 rintro m ⟨env, S⟩ ⟨k, hk, rfl, hrk, e0, e4, e6, s4, s6, s12, e9⟩
 simp only at e0 e4 e6 s4 s6 s12 e9
 rw [hrk]
 by_cases hlt : (k : Int) < R.length
 ·obtain ⟨r, hr⟩ := Af (show k < R.length by omega)
  have hmem := AP hr
  have c1 := Tm.may_chk (hR.left r hmem)
  have c2 := Tm.may_chk (hR.right r hmem)
  have hok := Mv c1.1 hc
  have hd := Bf hr
  rw [hd, D4]
  by_cases hcase : Bc r.1 t = true
  ·rw [if_pos hcase]
   have hon := Uy (A4 r.1 t) (by have := N7 (p := r.1) (t := t); omega) hok.ord r.2 hok.var c2.1
   by_cases hon2 : (Bw (A4 r.1 t) r.2).2 = true
   ·repeat' (first | (with_reducible first | refine W ?_ | refine Z0 ?_ | ((first | refine Wo fun K hK => ?_ | refine Wp ?_ | refine Wq ?_ | refine Wr ?_); (try simp only [go_sem, fN, seval, eT, iR, e0, e4, e6, s4, s6, s12, e9, hlt, hr, CR, hcase, hon2, dT, dF, nL]); (repeat refine Ai ?_); (try (refine hK _ ?_; clear hK K)); try refine iC ?_)) | refine Cg _ (Pq r.1 t (by omega) hz) ?_ | refine Cg _ (hon) ?_)
    simp only [go_sem, fN, seval, AK, AS.result, AB, AD, AI, e6, s6, hon2]
   ·have hnil := Mw hon2
    simp only [Bool.not_eq_true] at hon2
    repeat' (first | (with_reducible first | refine W ?_ | refine Z0 ?_ | ((first | refine Wo fun K hK => ?_ | refine Wp ?_ | refine Wq ?_ | refine Wr ?_); (try simp only [go_sem, fN, seval, eT, iR, e0, e4, e6, s4, s6, s12, e9, hlt, hr, CR, hcase, hon2, dT, dF, nL]); (repeat refine Ai ?_); (try (refine hK _ ?_; clear hK K)); try refine iC ?_)) | refine Cg _ (Pq r.1 t (by omega) hz) ?_ | refine Cg _ (hon) ?_)
    simp only [go_sem, fN, seval, AK, AS.result, AB, AD, AI, e6, s6, hon2, hnil]
    rfl
  ·rw [if_neg hcase]
   repeat' (first | (with_reducible first | refine W ?_ | refine Z0 ?_ | ((first | refine Wo fun K hK => ?_ | refine Wp ?_ | refine Wq ?_ | refine Wr ?_); (try simp only [go_sem, fN, seval, eT, iR, e0, e4, e6, s4, s6, s12, e9, hlt, hr, CR, hcase, dT, dF, nL]); (repeat refine Ai ?_); (try (refine hK _ ?_; clear hK K)); try refine iC ?_)) | refine Cg _ (Pq r.1 t (by omega) hz) ?_)
   refine AF ⟨R.length - (k + 1), by omega, k + 1, by omega, rfl, ?_, ?_⟩
   ·rfl
   ·simp only [go_sem, fN, seval, eT, iR, e0, e4, e6, s4, s6, s12, e9]
    congr 3
 ·have hd : R.drop k = [] := List.drop_of_length_le (by omega)
  rw [hd]
  repeat' with_reducible first | refine W ?_ | refine Z0 ?_ | ((first | refine Wo fun K hK => ?_ | refine Wp ?_ | refine Wq ?_ | refine Wr ?_); (try simp only [go_sem, fN, seval, eT, iR, e0, e4, e6, s4, s6, s12, e9, hlt, dT, dF, nL]); (repeat refine Ai ?_); (try (refine hK _ ?_; clear hK K)); try refine iC ?_)
  simp only [go_sem, fN, seval, AK, AS.result, AB, AD, AI, e6, s6]
  rfl
def DW (t : Tm) (r : Option (Tm × Int)) : AV := match r with
 | none => .tup [aTm t, Ad false, AO 0]
 | some (x, e) => .tup [aTm x, Ad true, AO e]
theorem UR {R : List Pr} {t : Tm} (h : Cn R t = none) : G6 (D4 t 0 (R.drop 0)) = .tup [aTm Tm.nil, AO (-1), AO 0] := by
 have := J0 R t R 0
 unfold Cn at h
 rw [h] at this
 rw [List.drop_zero, G6, this]
theorem UP {R : List Pr} {t x : Tm} {e : Int} (h : Cn R t = some (x, e)) : ∃ i : Nat, G6 (D4 t 0 (R.drop 0)) = .tup [aTm x, AO i, AO e] := by
 have := J0 R t R 0
 unfold Cn at h
 rw [h] at this
 obtain ⟨i, hi⟩ := this
 exact ⟨i, by rw [List.drop_zero, G6, hi]⟩
theorem Ni {R : List Pr} (hR : A1 R) (t : Tm) (hc : t.chk = 0) (hz : t.size ≤ 1000000) : AN Tryz.prog 97 [Bg R, aTm t] (DW Tm.nil (t.inn R)) := by
 induction h : SizeOf.sizeOf t using Nat.strongRecOn generalizing t with
 | _ N ih =>
 subst h
 have hs := Tm.size_eq t
 have hln := Tm.length_le t.args
 refine FN.ac fun C hC => ?_
 unfold DN
 repeat' with_reducible first | refine W ?_ | refine Z0 ?_ | ((first | refine Wo fun K hK => ?_ | refine Wp ?_ | refine Wq ?_ | refine Wr ?_); (try simp only [go_sem, fN, seval, eT, iR, dT, dF, nL]); (repeat refine Ai ?_); (try (refine hK _ ?_; clear hK K)); try refine iC ?_)
 refine IWP.loopD [8] (fun m s => ∃ k, k ≤ t.args.length ∧ m = t.args.length - k ∧ (∀ b ∈ t.args.take k, b.inn R = none) ∧ s.env 0 = Bg R ∧ s.env 3 = .one (.ptr 3 1 0 0) ∧ s.env 4 = .one (.ptr 4 1 0 0) ∧ s.S 3 = some (.box 25 [.st (.str t.name), .st (.list (t.args.map Al))]) ∧ s.S 4 = some (.box 25 [.st (.str ⟨#[]⟩), .full []]) ∧ s.S 8 = none ∧ s.S 11 = none ∧ s.S 12 = none ∧ s.S 41 = none ∧ s.env 17 = AO t.args.length ∧ s.env 18 = AO k)
  t.args.length ⟨0, Nat.zero_le _, rfl, by simp, rfl, rfl, rfl, rfl, rfl, rfl, rfl, rfl, rfl, rfl, rfl⟩ ?_
 rintro m ⟨env, S⟩ ⟨k, hk, rfl, hno, e0, e3, e4, s3, s4, s8, s11, s12, s41, e17, e18⟩
 simp only at e0 e3 e4 s3 s4 s8 s11 s12 s41 e17 e18
 by_cases hlt : (k : Int) < t.args.length
 ·obtain ⟨a, ha⟩ := Af (show k < t.args.length by omega)
  have hmem := AP ha
  have hcon := ih _ (Tm.lt_of_arg hmem) a ((Tm.chk_args hc).2 a hmem) (by have := Tm.size_mem hmem; omega) rfl
  cases hi : a.inn R with
  | none =>
   rw [hi] at hcon
   unfold DW at hcon
   repeat' (first | (with_reducible first | refine W ?_ | refine Z0 ?_ | ((first | refine Wo fun K hK => ?_ | refine Wp ?_ | refine Wq ?_ | refine Wr ?_); (try simp only [go_sem, fN, seval, eT, iR, e0, e3, e4, s3, s4, s8, s11, s12, s41, e17, e18, hlt, ha, dT, dF, nL]); (repeat refine Ai ?_); (try (refine hK _ ?_; clear hK K)); try refine iC ?_)) | refine Cg _ (hcon) ?_)
   refine AF ⟨t.args.length - (k + 1), by omega, k + 1, by omega, rfl, ?_, ?_⟩
   ·intro b hb
    rw [Ak ha] at hb
    rcases List.mem_append.1 hb with hb | hb
    ·exact hno b hb
    ·rw [List.mem_singleton.1 hb]
     exact hi
   ·simp only [go_sem, fN, seval, AS.drop, Ac, AC.clears, AC.clear, AC.highs, AC.high, Bool.not_false, Bool.true_and, Bool.and_self, AV.purge, AV.purges, AC.purge, AL.purge, List.contains_cons, List.contains_nil, Nat.reduceBEq, Bool.or_self, Bool.or_false, Bool.false_or, Bool.or_true, eT, iR, e0, e3, e4, s3, s4, s8, s11, s12, s41, e17, e18]
    congr 3
  | some r =>
   obtain ⟨y, e⟩ := r
   rw [hi] at hcon
   unfold DW at hcon
   have hin : t.inn R = some (.mk t.name (t.args.set k y), e) := by
    rw [Tm.inn_eq, QJ ha hno hi]
   rw [hin]
   unfold DW
   by_cases he : e = 0
   all_goals
    repeat' (first | (with_reducible first | refine W ?_ | refine Z0 ?_ | ((first | refine Wo fun K hK => ?_ | refine Wp ?_ | refine Wq ?_ | refine Wr ?_); (try simp only [go_sem, fN, seval, eT, iR, e0, e3, e4, s3, s4, s8, s11, s12, s41, e17, e18, hlt, ha, he, dT, dF, nL]); (repeat refine Ai ?_); (try (refine hK _ ?_; clear hK K)); try refine iC ?_)) | refine Cg _ (hcon) ?_)
    refine ⟨_, _, _, _, Jf t.args (by omega) (by omega), by simp [AG, s41], ?_⟩
    refine Wr ?_
    simp only [go_sem, fN, seval, eT, iR, e0, e3, e4, s3, s4, s8, s11, s12, s41, e17, e18, hlt, ha, he]
    refine hK _ ?_
    clear hK K
    refine Wb ?_
    refine IWP.mid (fun x => x.env 4 = .one (.ptr 4 1 0 0) ∧ x.env 11 = .one (.ptr 11 1 0 0) ∧ x.env 9 = Ad true ∧ x.env 10 = AO e ∧ x.S 4 = some (.box 25 [.st (.str ⟨#[]⟩), .full []]) ∧ x.S 11 = some (.box 25 [.st (.str t.name), .row 41 t.args.length]) ∧ x.S 41 = some (.mrow 25 2 ((t.args.set k y).map Al))) ?_ ?_
    ·repeat' with_reducible first | refine W ?_ | refine Z0 ?_ | ((first | refine Wo fun K hK => ?_ | refine Wp ?_ | refine Wq ?_ | refine Wr ?_); (try simp only [go_sem, fN, seval, eT, iR, e0, e3, e4, s3, s4, s8, s11, s12, s41, e17, e18, hlt, ha, he, dT, dF, nL]); (repeat refine Ai ?_); (try (refine hK _ ?_; clear hK K)); try refine iC ?_)
     refine ⟨rfl, ?_⟩
     simp only [go_sem, fN, seval, eT, iR, e0, e3, e4, s3, s4, s8, s11, s12, s41, e17, e18, hlt, ha, he]
     rw [List.map_set, BI]
    rintro ⟨env, S⟩ ⟨e4, e11, e9, e10, s4, s11, s41⟩
    simp only at e4 e11 e9 e10 s4 s11 s41
    refine IWP.ghost (Aa.share (id := 41) s41) ?_
    have hl1 : (t.args.set k y).length = t.args.length := by simp
    repeat' with_reducible first | refine W ?_ | refine Z0 ?_ | ((first | refine Wo fun K hK => ?_ | refine Wp ?_ | refine Wq ?_ | refine Wr ?_); (try simp only [go_sem, fN, seval, eT, iR, e4, e11, e9, e10, s4, s11, hl1, dT, dF, nL]); (repeat refine Ai ?_); (try (refine hK _ ?_; clear hK K)); try refine iC ?_)
    simp only [go_sem, fN, seval, AK, AS.result, AB, AD, AI, e4, s4, hl1]
    first | rfl | (rw [he]; rfl)
 ·rw [List.take_of_length_le (by omega)] at hno
  have hin : t.inn R = Cn R t := by rw [Tm.inn_eq, OR hno]
  rw [hin]
  have hroot := PC hR t hc hz 0 (by omega)
  cases hr : Cn R t with
  | none =>
   rw [UR hr] at hroot
   unfold DW
   repeat' (first | (with_reducible first | refine W ?_ | refine Z0 ?_ | ((first | refine Wo fun K hK => ?_ | refine Wp ?_ | refine Wq ?_ | refine Wr ?_); (try simp only [go_sem, fN, seval, eT, iR, e0, e3, e4, s3, s4, s8, s11, s12, s41, e17, e18, hlt, dT, dF, nL]); (repeat refine Ai ?_); (try (refine hK _ ?_; clear hK K)); try refine iC ?_)) | refine Cg _ (hroot) ?_)
   simp only [go_sem, fN, seval, AK, AS.result, AB, AD, AI, e4, s4]
  | some r =>
   obtain ⟨x, e⟩ := r
   obtain ⟨i, hi⟩ := UP hr
   rw [hi] at hroot
   unfold DW
   repeat' (first | (with_reducible first | refine W ?_ | refine Z0 ?_ | ((first | refine Wo fun K hK => ?_ | refine Wp ?_ | refine Wq ?_ | refine Wr ?_); (try simp only [go_sem, fN, seval, eT, iR, e0, e3, e4, s3, s4, s8, s11, s12, s41, e17, e18, hlt, dT, dF, nL]); (repeat refine Ai ?_); (try (refine hK _ ?_; clear hK K)); try refine iC ?_)) | refine Cg _ (hroot) ?_)
   simp only [go_sem, fN, seval, AK, AS.result, AB, AD, AI, e4, s4]
theorem Ng {R : List Pr} (hR : A1 R) (t : Tm) (hc : t.chk = 0) (hz : t.size ≤ 1000000) : AN Tryz.prog 70 [Bg R, aTm t] (DW t (t.out R)) := by
 induction h : SizeOf.sizeOf t using Nat.strongRecOn generalizing t with
 | _ N ih =>
 subst h
 have hs := Tm.size_eq t
 have hln := Tm.length_le t.args
 have hroot := PC hR t hc hz 0 (by omega)
 cases hr : Cn R t with
 | some r =>
  obtain ⟨x, e⟩ := r
  obtain ⟨i, hi⟩ := UP hr
  rw [hi] at hroot
  rw [Tm.out_eq, hr]
  unfold DW
  refine DM.ac fun C hC => ?_
  unfold CI
  repeat' (first | (with_reducible first | refine W ?_ | refine Z0 ?_ | ((first | refine Wo fun K hK => ?_ | refine Wp ?_ | refine Wq ?_ | refine Wr ?_); (try simp only [go_sem, fN, seval, eT, iR, dT, dF, nL]); (repeat refine Ai ?_); (try (refine hK _ ?_; clear hK K)); try refine iC ?_)) | refine Cg _ (hroot) ?_)
  simp only [go_sem, fN, seval, AK, AS.result, AB, AD, AI]
 | none =>
 rw [UR hr] at hroot
 have hout : t.out R = match Tm.outL R t.args with
  | some (ys, e) => some (.mk t.name ys, e)
  | none => none := by
  rw [Tm.out_eq]
  simp only [hr]
  cases Tm.outL R t.args <;> rfl
 rw [hout]
 refine DM.ac fun C hC => ?_
 unfold CI
 repeat' (first | (with_reducible first | refine W ?_ | refine Z0 ?_ | ((first | refine Wo fun K hK => ?_ | refine Wp ?_ | refine Wq ?_ | refine Wr ?_); (try simp only [go_sem, fN, seval, eT, iR, dT, dF, nL]); (repeat refine Ai ?_); (try (refine hK _ ?_; clear hK K)); try refine iC ?_)) | refine Cg _ (hroot) ?_)
 refine IWP.loopD [11] (fun m s => ∃ k, k ≤ t.args.length ∧ m = t.args.length - k ∧ (∀ b ∈ t.args.take k, b.out R = none) ∧ s.env 0 = Bg R ∧ s.env 3 = .one (.ptr 3 1 0 0) ∧ s.env 4 = .one (.ptr 4 1 0 0) ∧ s.S 3 = some (.box 25 [.st (.str t.name), .st (.list (t.args.map Al))]) ∧ s.S 4 = some (.box 25 [.st (.str ⟨#[]⟩), .full []]) ∧ s.S 11 = none ∧ s.S 14 = none ∧ s.S 58 = none ∧ s.env 34 = AO t.args.length ∧ s.env 35 = AO k)
  t.args.length ⟨0, Nat.zero_le _, rfl, by simp, rfl, rfl, rfl, rfl, rfl, rfl, rfl, rfl, rfl, rfl⟩ ?_
 rintro m ⟨env, S⟩ ⟨k, hk, rfl, hno, e0, e3, e4, s3, s4, s11, s14, s58, e34, e35⟩
 simp only at e0 e3 e4 s3 s4 s11 s14 s58 e34 e35
 by_cases hlt : (k : Int) < t.args.length
 ·obtain ⟨a, ha⟩ := Af (show k < t.args.length by omega)
  have hmem := AP ha
  have hcon := ih _ (Tm.lt_of_arg hmem) a ((Tm.chk_args hc).2 a hmem) (by have := Tm.size_mem hmem; omega) rfl
  cases hi : a.out R with
  | none =>
   rw [hi] at hcon
   unfold DW at hcon
   repeat' (first | (with_reducible first | refine W ?_ | refine Z0 ?_ | ((first | refine Wo fun K hK => ?_ | refine Wp ?_ | refine Wq ?_ | refine Wr ?_); (try simp only [go_sem, fN, seval, eT, iR, e0, e3, e4, s3, s4, s11, s14, s58, e34, e35, hlt, ha, dT, dF, nL]); (repeat refine Ai ?_); (try (refine hK _ ?_; clear hK K)); try refine iC ?_)) | refine Cg _ (hcon) ?_)
   refine AF ⟨t.args.length - (k + 1), by omega, k + 1, by omega, rfl, ?_, ?_⟩
   ·intro b hb
    rw [Ak ha] at hb
    rcases List.mem_append.1 hb with hb | hb
    ·exact hno b hb
    ·rw [List.mem_singleton.1 hb]
     exact hi
   ·simp only [go_sem, fN, seval, AS.drop, Ac, AC.clears, AC.clear, AC.highs, AC.high, Bool.not_false, Bool.true_and, Bool.and_self, AV.purge, AV.purges, AC.purge, AL.purge, List.contains_cons, List.contains_nil, Nat.reduceBEq, Bool.or_self, Bool.or_false, Bool.false_or, Bool.or_true, eT, iR, e0, e3, e4, s3, s4, s11, s14, s58, e34, e35]
    congr 3
  | some r =>
   obtain ⟨y, e⟩ := r
   rw [hi] at hcon
   unfold DW at hcon
   rw [QD ha hno hi]
   unfold DW
   by_cases he : e = 0
   all_goals
    repeat' (first | (with_reducible first | refine W ?_ | refine Z0 ?_ | ((first | refine Wo fun K hK => ?_ | refine Wp ?_ | refine Wq ?_ | refine Wr ?_); (try simp only [go_sem, fN, seval, eT, iR, e0, e3, e4, s3, s4, s11, s14, s58, e34, e35, hlt, ha, he, dT, dF, nL]); (repeat refine Ai ?_); (try (refine hK _ ?_; clear hK K)); try refine iC ?_)) | refine Cg _ (hcon) ?_)
    refine ⟨_, _, _, _, Jf t.args (by omega) (by omega), by simp [AG, s58], ?_⟩
    refine Wr ?_
    simp only [go_sem, fN, seval, eT, iR, e0, e3, e4, s3, s4, s11, s14, s58, e34, e35, hlt, ha, he]
    refine hK _ ?_
    clear hK K
    refine Wb ?_
    refine IWP.mid (fun x => x.env 4 = .one (.ptr 4 1 0 0) ∧ x.env 14 = .one (.ptr 14 1 0 0) ∧ x.env 12 = Ad true ∧ x.env 13 = AO e ∧ x.S 4 = some (.box 25 [.st (.str ⟨#[]⟩), .full []]) ∧ x.S 14 = some (.box 25 [.st (.str t.name), .row 58 t.args.length]) ∧ x.S 58 = some (.mrow 25 2 ((t.args.set k y).map Al))) ?_ ?_
    ·repeat' with_reducible first | refine W ?_ | refine Z0 ?_ | ((first | refine Wo fun K hK => ?_ | refine Wp ?_ | refine Wq ?_ | refine Wr ?_); (try simp only [go_sem, fN, seval, eT, iR, e0, e3, e4, s3, s4, s11, s14, s58, e34, e35, hlt, ha, he, dT, dF, nL]); (repeat refine Ai ?_); (try (refine hK _ ?_; clear hK K)); try refine iC ?_)
     refine ⟨rfl, ?_⟩
     simp only [go_sem, fN, seval, eT, iR, e0, e3, e4, s3, s4, s11, s14, s58, e34, e35, hlt, ha, he]
     rw [List.map_set, BI]
    rintro ⟨env, S⟩ ⟨e4, e14, e12, e13, s4, s14, s58⟩
    simp only at e4 e14 e12 e13 s4 s14 s58
    refine IWP.ghost (Aa.share (id := 58) s58) ?_
    have hl1 : (t.args.set k y).length = t.args.length := by simp
    repeat' with_reducible first | refine W ?_ | refine Z0 ?_ | ((first | refine Wo fun K hK => ?_ | refine Wp ?_ | refine Wq ?_ | refine Wr ?_); (try simp only [go_sem, fN, seval, eT, iR, e4, e14, e12, e13, s4, s14, hl1, dT, dF, nL]); (repeat refine Ai ?_); (try (refine hK _ ?_; clear hK K)); try refine iC ?_)
    simp only [go_sem, fN, seval, AK, AS.result, AB, AD, AI, e4, s4, hl1]
    first | rfl | (rw [he]; rfl)
 ·rw [List.take_of_length_le (by omega)] at hno
  rw [N8 hno]
  unfold DW
  repeat' with_reducible first | refine W ?_ | refine Z0 ?_ | ((first | refine Wo fun K hK => ?_ | refine Wp ?_ | refine Wq ?_ | refine Wr ?_); (try simp only [go_sem, fN, seval, eT, iR, e0, e3, e4, s3, s4, s11, s14, s58, e34, e35, hlt, dT, dF, nL]); (repeat refine Ai ?_); (try (refine hK _ ?_; clear hK K)); try refine iC ?_)
  simp only [go_sem, fN, seval, AK, AS.result, AB, AD, AI, e4, s4]


theorem Aa.freeze {C : Ctx} {s : AS} (id : Nat) (ts : List Nat) {ty : TypeId} {xs : List SV} (hS : s.S id = some (.box ty (xs.map .st))) (hl : 0 < xs.length) (ht : ∀ t ∈ ts, s.env t = .one (.ptr id 1 0 0)) :
  Aa C s ⟨fun t => if t ∈ ts then .one (.eptr xs) else s.env t, AG s.S id (some (.dead 1 0))⟩ := fun a w ⟨σ, ι, R⟩ => by
 have hb := R.blk _ _ hS
 cases hb with
 | @box _ _ g vs h1 h2 h3 h4 h5 =>
  have hkeep := EX (σ := σ) (w' := w) (g := g) (k := xs.length) (fun p x e hx => by rw [h5 _ e] at hx; cases hx)
  obtain ⟨hu, R'⟩ := R.turn (w' := w) hS (.dead 1 0) (ι id) (σ' := D1 σ w g xs.length) hkeep (fun p hp _ => EY (fun e => hp (by rw [e]; exact h1))) (Ds R.fit) (Nat.le_refl _) (fun _ => ⟨rfl, rfl⟩) ⟨rfl, rfl, rfl⟩ (Nat.le_refl _) (fun _ _ _ => rfl) (fun g h => .inl h)
   (fun hu => .dead fun g' hg' => by rw [h1] at hg'; cases hg'; exact ⟨_, h3, rfl⟩)
  refine ⟨_, _, R'.size, fun i hi => ?_, R'.nod, R'.fit, R'.blk, R'.inj, R'.base, R'.ext, R'.old, R'.os, R'.grown, R'.same, R'.upd⟩
  show AR _ _ _ _ (if i ∈ ts then .one (.eptr xs) else s.env i)
  split
  ·rename_i hm
   have re := R.env i hi
   rw [ht i hm] at re
   obtain ⟨b, q1, q2, q3⟩ := Ec (AY re)
   rw [hS] at q1
   cases q1
   obtain ⟨g', e1, e2⟩ := q3 rfl
   rw [h1] at e1
   cases e1
   rw [e2]
   have cell : ∀ j x, xs[j]? = some x → ∃ v, vs[j]? = some v ∧ Ay σ v x := fun j x hx => by
    obtain ⟨v, v1, v2⟩ := h4.get (j := j) (b := .st x) (by rw [List.getElem?_map, hx]; rfl)
    exact ⟨v, by simpa using v1, DE v2⟩
   refine .one (.eptr (fun j => (vs[j]?).getD undef) (fun j x hx => ?_) (fun j x hx => ?_) (fun _ _ => ?_))
   ·obtain ⟨v, v1, v2⟩ := cell j x hx
    have hj := (List.getElem?_eq_some_iff.1 hx).1
    rw [show (0 * (AL.box ty (xs.map AC.st)).wid + 0 + j) = j by omega, JI hj, cell_of_row w g _ _ _ _ h3, v1]
    rfl
   ·obtain ⟨v, v1, v2⟩ := cell j x hx
    rw [v1]
    exact v2.mono hkeep
   ·rw [F3 hl, EK h3]
  ·exact R'.env i hi


section
variable {C : Ctx} {s : AS}
theorem Aa.ice (t : Nat) {id : Nat} {e : TypeId} {cs : List AC} {xs : List SV} (hS : s.S id = some (.box e cs)) (hc : stCs s.S cs = some xs) (ht : s.env t = .one (.ptr id 1 0 0)) (hn : t < C.n) : Aa C s ⟨AG s.env t (.one (.eptr xs)), AG s.S id (some (.dead 1 0))⟩ := fun a w ⟨σ, ι, R⟩ => by
 have hb := R.blk _ _ hS
 cases hb with
 | @box _ _ g vs h1 h2 h3 h4 h5 =>
  have hsc := R.stCs h4 hc
  have hkeep := EX (σ := σ) (w' := w) (g := g) (k := vs.size) (fun p x ep hx => by rw [h5 _ ep] at hx; cases hx)
  obtain ⟨hu, R'⟩ := R.turn (w' := w) hS (.dead 1 0) (ι id) (σ' := D1 σ w g vs.size) hkeep (fun p hp _ => EY (fun e => hp (by rw [e]; exact h1))) (Ds R.fit) (Nat.le_refl _) (fun _ => ⟨rfl, rfl⟩) ⟨rfl, rfl, rfl⟩ (Nat.le_refl _) (fun _ _ _ => rfl) (fun g h => .inl h) (fun hu => .dead fun g' hg' => ⟨_, (by rw [h1] at hg'; cases hg'; exact h3), rfl⟩)
  refine ⟨_, _, { R' with env := fun i hi => ?_ }⟩
  show AR _ _ _ _ (AG s.env t _ i)
  unfold AG
  split
  ·rename_i hit
   subst hit
   have := R.env i hi
   rw [ht] at this
   have hv := AY this
   generalize a.tmps.getD i undef = v at hv
   cases hv with
   | ptr k1 k2 k3 k4 =>
    rw [hS] at k1
    cases k1
    obtain ⟨g', q1, q2⟩ := k4 rfl
    rw [h1] at q1
    cases q1
    rw [q2]
    have key : ∀ j x, xs[j]? = some x → ∃ v, vs[j]? = some v ∧ Ay σ v x := fun j x hx => by
     obtain ⟨v, v1, v2⟩ := hsc.get hx
     exact ⟨v, by simpa using v1, v2⟩
    have hlen : vs.size = xs.length := by simpa using hsc.len
    refine .one (.eptr (o := 0) (fun j => (vs[j]?).getD undef) (fun j x hx => ?_) (fun j x hx => ?_) (fun _ q => ?_))
    ·obtain ⟨v, v1, v2⟩ := key j x hx
     have hj : j < vs.size := (Array.getElem?_eq_some_iff.1 v1).1
     rw [Nat.zero_add, JI hj, cell_of_row w g _ _ _ _ h3]
     simp [v1]
    ·obtain ⟨v, v1, v2⟩ := key j x hx
     rw [v1]
     exact v2.mono hkeep
    ·rw [F3 (by omega), EK h3]
  ·exact R'.env i hi
theorem Aa.calm {id : Nat} {e : TypeId} {cs : List AC} {xs : List SV} (hS : s.S id = some (.box e cs)) (hc : stCs s.S cs = some xs) : Aa C s (s.set id (.box e (xs.map .st))) := fun a w ⟨σ, ι, R⟩ => by
 have hb := R.blk _ _ hS
 cases hb with
 | @box _ _ g vs h1 h2 h3 h4 h5 =>
  have hsc := R.stCs h4 hc
  obtain ⟨hu, R'⟩ := R.turn (w' := w) hS (.box e (xs.map .st)) (ι id) (σ' := σ) (fun _ _ h => h) (fun _ _ _ => rfl) R.fit (Nat.le_refl _) (fun _ => ⟨rfl, rfl⟩) ⟨rfl, rfl, rfl⟩ (Nat.le_refl _) (fun _ _ _ => rfl) (fun g h => .inl h) (fun hu => .box h1 h2 h3 ((hsc.mono fun _ _ x => Ao.st x).map_right) h5)
  exact ⟨_, _, R'⟩
end
abbrev C8 (t : Tm) : List SV := [.str t.name, .list (t.args.map Al)]
def svW : List (Tm × Nat) → SV
 | [] => .lit (.func (.func 52) #[] #[])
 | (t, i) :: V => .clo 106 [C8 t, [.int .i64 i], [svW V]]
def acW : List (Tm × Nat) → AC
 | [] => .fn 52 []
 | (t, i) :: V => .fn 106 [.eptr (C8 t), .eptr [.int .i64 i], .eptr [svW V]]
theorem Tf (S : AA) : ∀ V, stC S (acW V) = some (svW V)
 | [] => rfl
 | (t, i) :: V => rfl
def LP : List (Tm × Nat) → List AC
 | [] => []
 | (t, i) :: V => [.eptr (C8 t), .eptr [.int .i64 i], .eptr [svW V]]
def fnW : List (Tm × Nat) → Nat
 | [] => 52
 | (t, i) :: V => 106
theorem KP : ∀ V, (AV.one (.st (svW V))).fnOf = some (fnW V, LP V)
 | [] => rfl
 | (t, i) :: V => rfl
theorem Hu : ∀ V, CJ Tryz.prog (fnW V) = true
 | [] => by kernel_rfl
 | (t, i) :: V => by kernel_rfl
theorem Gn (ρ : Nat → Nat) : ∀ V, AV.rens ρ ((LP V).map .one) = (LP V).map .one
 | [] => rfl
 | (t, i) :: V => rfl
theorem PS (V : List (Tm × Nat)) (x : Tm) : outVs noS (aTm x :: (LP V).map .one) = some (aTm x :: (LP V).map .one) := by
 cases V <;> rfl
theorem Tl (x : Tm) : AN Tryz.prog 52 [aTm x] (aTm x) := by
 refine G9.ac fun C hC => ?_
 unfold D3
 repeat' with_reducible first | refine W ?_ | refine Z0 ?_ | ((first | refine Wo fun K hK => ?_ | refine Wp ?_ | refine Wq ?_ | refine Wr ?_); (try simp only [go_sem, fN, seval, eT, iR, dT, dF, nL]); (repeat refine Ai ?_); (try (refine hK _ ?_; clear hK K)); try refine iC ?_)
 simp only [go_sem, fN, seval, AK, AS.result, AB, AD, AI]
theorem TJ : ∀ (V : List (Tm × Nat)) (x : Tm), LG V → AN Tryz.prog (fnW V) (aTm x :: (LP V).map .one) (aTm (Bm V x))
 | [], x, _ => Tl x
 | (t, i) :: V, x, hV => by
  obtain ⟨h1, h2, h3⟩ := hV
  have ih := TJ V (.mk t.name (t.args.set i x)) h3
  show AN Tryz.prog 106 [aTm x, .one (.eptr (C8 t)), .one (.eptr [.int .i64 i]), .one (.eptr [svW V])] (aTm (Bm V (.mk t.name (t.args.set i x))))
  refine Gk.ac fun C hC => ?_
  unfold Dj
  repeat' with_reducible first | refine W ?_ | refine Z0 ?_ | ((first | refine Wo fun K hK => ?_ | refine Wp ?_ | refine Wq ?_ | refine Wr ?_); (try simp only [go_sem, fN, seval, eT, iR, dT, dF, nL]); (repeat refine Ai ?_); (try (refine hK _ ?_; clear hK K)); try refine iC ?_)
  refine ⟨_, _, _, _, Jf t.args (by omega) h2, by simp [AG, noS], ?_⟩
  refine Wr ?_
  simp only [go_sem, fN, seval, eT, iR]
  refine hK _ ?_
  clear hK K
  refine Wb ?_
  refine IWP.mid (fun x' => x'.env 3 = .one (.eptr [svW V]) ∧ x'.env 5 = .one (.ptr 5 1 0 0) ∧ x'.env 6 = .one (.ptr 6 1 0 0) ∧ x'.S 5 = some (.box 25 [.st (.str ⟨#[]⟩), .full []]) ∧ x'.S 6 = some (.box 25 [.st (.str t.name), .row 11 t.args.length]) ∧ x'.S 11 = some (.mrow 25 2 ((t.args.set i x).map Al))) ?_ ?_
  ·have hlt : (i : Int) < t.args.length := by omega
   obtain ⟨a, ha⟩ := Af h1
   repeat' with_reducible first | refine W ?_ | refine Z0 ?_ | ((first | refine Wo fun K hK => ?_ | refine Wp ?_ | refine Wq ?_ | refine Wr ?_); (try simp only [go_sem, fN, seval, eT, iR, hlt, ha, dT, dF, nL]); (repeat refine Ai ?_); (try (refine hK _ ?_; clear hK K)); try refine iC ?_)
   refine ⟨rfl, ?_⟩
   simp only [go_sem, fN, seval, eT, iR, hlt, ha]
   rw [List.map_set, BI]
  rintro ⟨env, S⟩ ⟨e3, e5, e6, s5, s6, s11⟩
  simp only at e3 e5 e6 s5 s6 s11
  have hl1 : (t.args.set i x).length = t.args.length := by simp
  refine IWP.ghost (Aa.share (id := 11) s11) ?_
  refine IWP.ghost (Aa.calm (id := 6) (e := 25) (cs := [.st (.str t.name), .row 11 t.args.length]) (xs := C8 (.mk t.name (t.args.set i x))) (by simp only [go_sem, fN, seval, eT, iR, s6]) (by simp only [go_sem, fN, seval, eT, iR, hl1, stCs, stC, Tm.name_mk, Tm.args_mk, C8])) ?_
  repeat' with_reducible first | refine W ?_ | refine Z0 ?_ | ((first | refine Wo fun K hK => ?_ | refine Wp ?_ | refine Wq ?_ | refine Wr ?_); (try simp only [go_sem, fN, seval, eT, iR, e3, e5, e6, s5, s6, KP, dT, dF, nL]); (repeat refine Ai ?_); (try (refine hK _ ?_; clear hK K)); try refine iC ?_)
  rw [Gn]
  refine ⟨Hu V, _, _, ih.toS (PS V _), ?_⟩
  repeat' with_reducible first | refine W ?_ | refine Z0 ?_ | ((first | refine Wo fun K hK => ?_ | refine Wp ?_ | refine Wq ?_ | refine Wr ?_); (try simp only [go_sem, fN, seval, eT, iR, e3, e5, e6, s5, s6, dT, dF, nL]); (repeat refine Ai ?_); (try (refine hK _ ?_; clear hK K)); try refine iC ?_)
  simp only [go_sem, fN, seval, AK, AS.result, AB, AD, AI, e5, s5]
theorem UU (t : Tm) : AN Tryz.prog 51 [aTm t, .one (acW [])] (.one (.fn 78 [.eptr (C8 t), .eptr [svW []]])) := by
 refine I3.ac fun C hC => ?_
 unfold FF
 refine IWP.mid (fun x => x.env 2 = .one (.ptr 2 1 0 0) ∧ x.env 3 = .one (.ptr 3 1 0 0) ∧ (∃ e, x.S 2 = some (.box e [.st (.str t.name), .st (.list (t.args.map Al))])) ∧ ∃ e, x.S 3 = some (.box e [acW []])) ?_ ?_
 ·repeat' with_reducible first | refine W ?_ | refine Z0 ?_ | ((first | refine Wo fun K hK => ?_ | refine Wp ?_ | refine Wq ?_ | refine Wr ?_); (try simp only [go_sem, fN, seval, eT, iR, dT, dF, nL]); (repeat refine Ai ?_); (try (refine hK _ ?_; clear hK K)); try refine iC ?_)
  exact ⟨rfl, rfl, rfl, ⟨_, rfl⟩, ⟨_, rfl⟩⟩
 rintro ⟨env, S⟩ ⟨e2, e3, ⟨ty, s2⟩, ty', s3⟩
 simp only at e2 e3 s2 s3
 refine IWP.ghost (Aa.ice 2 (id := 2) s2 (xs := C8 t) rfl e2 (by omega)) ?_
 refine IWP.ghost (Aa.ice 3 (id := 3) (e := ty') (cs := [acW []]) (xs := [svW []]) (by simp only [go_sem, fN, seval, eT, iR, s3]) rfl (by simp only [go_sem, fN, seval, eT, iR, e3]) (by omega)) ?_
 repeat' with_reducible first | refine W ?_ | refine Z0 ?_ | ((first | refine Wo fun K hK => ?_ | refine Wp ?_ | refine Wq ?_ | refine Wr ?_); (try simp only [go_sem, fN, seval, eT, iR, AS.caps, dT, dF, nL]); (repeat refine Ai ?_); (try (refine hK _ ?_; clear hK K)); try refine iC ?_)
 simp only [go_sem, fN, seval, AK, AS.result, AB, AD, AI]
 rfl
theorem KL {s : AS} {ds : List Nat} (hds : ∀ d ∈ ds, d < 1000) {T : AA} (hT : Ar T) (h : ∀ i, 1000 ≤ i → s.S i = T i) : ∀ i, 1000 ≤ i → (s.drop ds).S i = T i := fun i hi => by
 show Ac ds s.S i = T i
 unfold Ac
 rw [Co hds hi, h i hi]
 cases hb : T i with
 | none => rfl
 | some b => simp [AL.purge_high hds (hT i b hb).2]
def Tr (q : List (Tm × Nat) × Tm) : List AV := [aTm q.2, .one (.st (svW q.1))]
theorem Tv {y : Nat} (hy : 1000 ≤ y) {all : List (List (Tm × Nat) × Tm)} {Inv : List (List (Tm × Nat) × Tm) → AA → Prop} {Jx : AA → Prop}
  (hround : ∀ pre v, (pre ++ [v]) <+: all → ∀ T, Inv pre T → HW Tryz.prog (.one (.yld y)) (Tr v) T fun r T' => (r = .one (.st (.bool true)) ∧ Inv (pre ++ [v]) T') ∨ (r = .one (.st (.bool false)) ∧ Jx T')) :
  ∀ (t : Tm) (V : List (Tm × Nat)) (c : AC) (pre : List (List (Tm × Nat) × Tm)) (T : AA), (∀ S, stC S c = some (svW V)) → c.stay = true ∨ c = acW V → t.size ≤ 1000000 → (pre ++ t.visits V) <+: all → Inv pre T →
   F8 Tryz.prog 79 [aTm t, .one c, .one (.yld y)] T fun r T' => (r = Ad true ∧ Inv (pre ++ t.visits V) T') ∨ (r = Ad false ∧ Jx T') := by
 intro t
 induction h : SizeOf.sizeOf t using Nat.strongRecOn generalizing t with
 | _ N ih =>
 subst h
 intro V c pre T0 hc hc2 hz hpre hI
 have hs := Tm.size_eq t
 have hln := Tm.length_le t.args
 refine Hx.acR fun hclean C hC htop => ?_
 unfold EN
 have n3 := Aj hclean (show 3 < 1000 by omega)
 have n4 := Aj hclean (show 4 < 1000 by omega)
 have n7 := Aj hclean (show 7 < 1000 by omega)
 refine IWP.mid (fun x => x.env 2 = .one (.yld y) ∧ x.env 3 = .one (.ptr 3 1 0 0) ∧ x.env 4 = .one (.ptr 4 1 0 0) ∧ (∃ e, x.S 3 = some (.box e [.st (.str t.name), .st (.list (t.args.map Al))])) ∧ (∃ e, x.S 4 = some (.box e [c])) ∧ x.S 7 = none ∧ ∀ i, 1000 ≤ i → x.S i = T0 i) ?_ ?_
 ·repeat' with_reducible first | refine W ?_ | refine Z0 ?_ | ((first | refine Wo fun K hK => ?_ | refine Wp ?_ | refine Wq ?_ | refine Wr ?_); (try simp only [go_sem, fN, seval, eT, iR, AS.startS, n3, n4, dT, dF, nL]); (repeat refine Ai ?_); (try (refine hK _ ?_; clear hK K)); try refine iC ?_)
  refine ⟨rfl, rfl, rfl, rfl, ⟨_, rfl⟩, ⟨_, rfl⟩, ?_, fun i hi => ?_⟩
  ·simp only [go_sem, fN, seval, eT, iR, n7]
  ·show AG (AG _ 3 _) 4 _ i = _
   rw [AH _ (by omega), AH _ (by omega)]
 rintro ⟨env, S⟩ ⟨e2, e3, e4, ⟨ty, s3⟩, ⟨ty', s4⟩, s7, hST⟩
 simp only at e2 e3 e4 s3 s4 s7 hST
 refine IWP.ghost (Aa.ice 3 (id := 3) s3 (xs := C8 t) rfl e3 (by omega)) ?_
 refine IWP.ghost (Aa.ice 4 (id := 4) (e := ty') (cs := [c]) (xs := [svW V]) (by simp only [go_sem, fN, seval, eT, iR, s4]) (by simp [stCs, hc]) (by simp only [go_sem, fN, seval, eT, iR, e4]) (by omega)) ?_
 have hy' := hround pre (V, t) (by
  rw [Tm.visits_eq] at hpre
  exact List.IsPrefix.trans ⟨Tm.visitsL V t 0 t.args, by simp⟩ hpre) T0 hI
 unfold Tr at hy'
 repeat' with_reducible first | refine W ?_ | refine Z0 ?_ | ((first | refine Wo fun K hK => ?_ | refine Wp ?_ | refine Wq ?_ | refine Wr ?_); (try simp only [go_sem, fN, seval, eT, iR, e2, dT, dF, nL]); (repeat refine Ai ?_); (try (refine hK _ ?_; clear hK K)); try refine iC ?_)
 refine Jm.mk T0 _ hclean (fun i hi => by
   show AG (AG S 3 _) 4 _ i = _
   rw [AH _ (by omega), AH _ (by omega)]
   exact hST i hi) (by
   show ((AC.yld y).high && true) = true
   rw [G7 hy]
   rfl) hy' ?_
 have hj : ∀ {S S' : AA} (i : Nat), 1000 ≤ i → Du S S' i = S' i := fun i hi => BF hi
 rintro r S' hS' (⟨rfl, hI'⟩ | ⟨rfl, hJ⟩)
 case inr =>
  repeat' with_reducible first | refine W ?_ | refine Z0 ?_ | ((first | refine Wo fun K hK => ?_ | refine Wp ?_ | refine Wq ?_ | refine Wr ?_); (try simp only [go_sem, fN, seval, eT, iR, e2, dT, dF, nL]); (repeat refine Ai ?_); (try (refine hK _ ?_; clear hK K)); try refine iC ?_)
  exact ⟨Ad false, S', .inr ⟨rfl, hJ⟩, CO (Ad false) hS' trivial rfl rfl fun i hi => BF hi⟩
 repeat' with_reducible first | refine W ?_ | refine Z0 ?_ | ((first | refine Wo fun K hK => ?_ | refine Wp ?_ | refine Wq ?_ | refine Wr ?_); (try simp only [go_sem, fN, seval, eT, iR, e2, dT, dF, nL]); (repeat refine Ai ?_); (try (refine hK _ ?_; clear hK K)); try refine iC ?_)
 refine IWP.loopD [7] (fun m s => ∃ k T pre', k ≤ t.args.length ∧ m = t.args.length - k ∧ pre' ++ Tm.visitsL V t k (t.args.drop k) = pre ++ t.visits V ∧ s.env 2 = .one (.yld y) ∧ s.env 3 = .one (.eptr (C8 t)) ∧ s.env 4 = .one (.eptr [svW V]) ∧ s.env 16 = AO t.args.length ∧ s.env 17 = AO k ∧ s.S 7 = none ∧ (∀ i, 1000 ≤ i → s.S i = T i) ∧ Ar T ∧ Inv pre' T) t.args.length ⟨0, S', pre ++ [(V, t)], Nat.zero_le _, rfl, ?_, ?_, ?_, ?_, ?_, ?_, ?_, fun i hi => BF hi, hS', hI'⟩ ?_
 ·rw [Tm.visits_eq]
  simp
 ·simp only [go_sem, fN, seval, eT, iR, e2]
 ·simp only [go_sem, fN, seval, eT, iR]
 ·simp only [go_sem, fN, seval, eT, iR]
 ·simp only [go_sem, fN, seval, eT, iR]
 ·simp only [go_sem, fN, seval, eT, iR]
 ·show Du (AG (AG S 3 (some (.dead 1 0))) 4 (some (.dead 1 0))) S' 7 = none
  rw [DD (by decide), AH _ (by decide), AH _ (by decide)]
  exact s7
 rintro m ⟨env, S⟩ ⟨k, T, pre', hk, rfl, hall, e2, e3, e4, e16, e17, s7, hST, hT, hI⟩
 simp only at e2 e3 e4 e16 e17 s7 hST
 by_cases hlt : k < t.args.length
 case neg =>
  rw [List.drop_of_length_le (by omega)] at hall
  simp only [Tm.visitsL, List.append_nil] at hall
  subst hall
  have hlt' : ¬ (k : Int) < t.args.length := by omega
  repeat' with_reducible first | refine W ?_ | refine Z0 ?_ | ((first | refine Wo fun K hK => ?_ | refine Wp ?_ | refine Wq ?_ | refine Wr ?_); (try simp only [go_sem, fN, seval, eT, iR, e2, e3, e4, e16, e17, hlt', dT, dF, nL]); (repeat refine Ai ?_); (try (refine hK _ ?_; clear hK K)); try refine iC ?_)
  exact ⟨Ad true, T, .inl ⟨rfl, hI⟩, CO (Ad true) hT trivial rfl rfl hST⟩
 obtain ⟨a, ha⟩ := Af hlt
 have hmem := AP ha
 have hlt' : (k : Int) < t.args.length := by omega
 rw [Mf ha, ← List.append_assoc] at hall
 repeat' with_reducible first | refine W ?_ | refine Z0 ?_ | ((first | refine Wo fun K hK => ?_ | refine Wq ?_ | refine Wr ?_); (try simp only [go_sem, fN, seval, eT, iR, e16, e17, hlt']); (repeat refine Ai ?_); (try (refine hK _ ?_; clear hK K)))
 with_reducible refine Wp ?_
 simp only [go_sem, fN, seval, true_implies, false_implies, implies_true, dT, dF, nL, hlt']
 (try with_reducible refine iC ?_)
 repeat' (with_reducible first | refine Wb ?_ | refine Wc ?_ | refine Wd ?_ | refine We ?_ | refine Wg ?_ | refine Wh ?_ | refine Wi ?_ | refine Wj ?_ | refine Wk (by decide) ?_ | refine Wl ?_ | refine Wm ?_ | refine Wn ?_)
 refine Wb ?_
 refine Wa ?_
 refine Wc ?_
 refine IWP.mid (fun x => x.env 2 = .one (.yld y) ∧ x.env 3 = .one (.eptr (C8 t)) ∧ x.env 4 = .one (.eptr [svW V]) ∧ x.env 16 = AO t.args.length ∧ x.env 17 = AO k ∧ x.env 7 = .one (.ptr 7 1 0 0) ∧ (∃ e, x.S 7 = some (.box e [.st (.int .i64 k)])) ∧ (∀ i, 1000 ≤ i → x.S i = T i)) ?_ ?_
 ·repeat' with_reducible first | refine W ?_ | refine Z0 ?_ | ((first | refine Wo fun K hK => ?_ | refine Wp ?_ | refine Wq ?_ | refine Wr ?_); (try simp only [go_sem, fN, seval, eT, iR, e2, e3, e4, e16, e17, s7, dT, dF, nL]); (repeat refine Ai ?_); (try (refine hK _ ?_; clear hK K)); try refine iC ?_)
  refine ⟨rfl, e2, e3, e4, e16, e17, rfl, ⟨_, rfl⟩, fun i hi => ?_⟩
  show AG (AG S 7 _) 7 _ i = _
  rw [AH _ (by omega), AH _ (by omega)]
  exact hST i hi
 clear e2 e3 e4 e16 e17 s7 hST
 rintro ⟨env, S⟩ ⟨e2, e3, e4, e16, e17, e7, ⟨ty7, s7⟩, hST⟩
 simp only at e2 e3 e4 e16 e17 e7 s7 hST
 refine IWP.ghost (Aa.ice 7 (id := 7) s7 (xs := [.int .i64 k]) rfl e7 (by omega)) ?_
 have hst : (AG S 7 (some (.dead 1 0)) : AA) 7 = some (.dead 1 0) := rfl
 have hcon := ih _ (Tm.lt_of_arg hmem) a rfl ((t, k) :: V) (acW ((t, k) :: V)) pre' T (fun S => Tf S _) (.inr rfl) (by have := Tm.size_mem hmem; omega) (List.IsPrefix.trans ⟨Tm.visitsL V t (k + 1) (List.drop (k + 1) t.args), hall⟩ hpre) hI
 repeat' with_reducible first | refine W ?_ | refine Z0 ?_ | ((first | refine Wo fun K hK => ?_ | refine Wp ?_ | refine Wq ?_ | refine Wr ?_); (try simp only [go_sem, fN, seval, eT, iR, e2, e3, e4, e16, e17, AS.caps, ha, dT, dF, nL]); (repeat refine Ai ?_); (try (refine hK _ ?_; clear hK K)); try refine iC ?_)
 refine Jm.mk T _ hT (fun i hi => by
  rw [AH _ (by omega)]
  exact hST i hi) (by
   show (true && (true && ((AC.yld y).high && true))) = true
   rw [G7 hy]
   rfl) hcon ?_
 rintro r S' hS' (⟨rfl, hI'⟩ | ⟨rfl, hJ⟩)
 case inr =>
  repeat' with_reducible first | refine W ?_ | refine Z0 ?_ | ((first | refine Wo fun K hK => ?_ | refine Wp ?_ | refine Wq ?_ | refine Wr ?_); (try simp only [go_sem, fN, seval, eT, iR, e2, e3, e4, e16, e17, dT, dF, nL]); (repeat refine Ai ?_); (try (refine hK _ ?_; clear hK K)); try refine iC ?_)
  exact ⟨Ad false, S', .inr ⟨rfl, hJ⟩, CO (Ad false) hS' trivial rfl rfl fun i hi => BF hi⟩
 repeat' with_reducible first | refine W ?_ | refine Z0 ?_ | ((first | refine Wo fun K hK => ?_ | refine Wp ?_ | refine Wq ?_ | refine Wr ?_); (try simp only [go_sem, fN, seval, eT, iR, e2, e3, e4, e16, e17, dT, dF, nL]); (repeat refine Ai ?_); (try (refine hK _ ?_; clear hK K)); try refine iC ?_)
 refine ⟨t.args.length - (k + 1), by omega, k + 1, S', _, by omega, rfl, hall, ?_, ?_, ?_, ?_, ?_, rfl, KL (by decide) hS' (fun i hi => BF hi), hS', hI'⟩
 ·have hy7 : (y == 7) = false := by
   rw [beq_eq_false_iff_ne]
   omega
  simp only [go_sem, fN, seval, AS.drop, Ac, AC.clears, AC.clear, AC.highs, AC.high, Bool.not_false, Bool.true_and, Bool.and_self, AV.purge, AV.purges, AC.purge, AL.purge, List.contains_cons, List.contains_nil, Nat.reduceBEq, Bool.or_self, Bool.or_false, Bool.false_or, Bool.or_true, eT, iR, e2, hy7]
 ·simp only [go_sem, fN, seval, AS.drop, Ac, AC.clears, AC.clear, AC.highs, AC.high, Bool.not_false, Bool.true_and, Bool.and_self, AV.purge, AV.purges, AC.purge, AL.purge, List.contains_cons, List.contains_nil, Nat.reduceBEq, Bool.or_self, Bool.or_false, Bool.false_or, Bool.or_true, eT, iR, e3]
 ·simp only [go_sem, fN, seval, AS.drop, Ac, AC.clears, AC.clear, AC.highs, AC.high, Bool.not_false, Bool.true_and, Bool.and_self, AV.purge, AV.purges, AC.purge, AL.purge, List.contains_cons, List.contains_nil, Nat.reduceBEq, Bool.or_self, Bool.or_false, Bool.false_or, Bool.or_true, eT, iR, e4]
 ·simp only [go_sem, fN, seval, AS.drop, Ac, AC.clears, AC.clear, AC.highs, AC.high, Bool.not_false, Bool.true_and, Bool.and_self, AV.purge, AV.purges, AC.purge, AL.purge, List.contains_cons, List.contains_nil, Nat.reduceBEq, Bool.or_self, Bool.or_false, Bool.false_or, Bool.or_true, eT, iR, e16]
 ·simp only [go_sem, fN, seval, AS.drop, Ac, AC.clears, AC.clear, AC.highs, AC.high, Bool.not_false, Bool.true_and, Bool.and_self, AV.purge, AV.purges, AC.purge, AL.purge, List.contains_cons, List.contains_nil, Nat.reduceBEq, Bool.or_self, Bool.or_false, Bool.false_or, Bool.or_true, eT, iR, e17]
  congr 3
theorem Ox (t : Tm) (hz : t.size ≤ 1000000) : US Tryz.prog 78 [.one (.eptr (C8 t)), .one (.eptr [svW []])] (fun _ => True) Tr (t.visits []) := by
 intro y Inv Jx T0 hy _ hround h0
 refine Hd.acR fun hclean C hC htop => ?_
 unfold D6
 have hcon := Tv hy hround t [] (.st (svW [])) [] T0 (fun _ => rfl) (.inl rfl) hz (List.prefix_refl _) h0
 repeat' with_reducible first | refine W ?_ | refine Z0 ?_ | ((first | refine Wo fun K hK => ?_ | refine Wp ?_ | refine Wq ?_ | refine Wr ?_); (try simp only [go_sem, fN, seval, eT, iR, AS.startS, dT, dF, nL]); (repeat refine Ai ?_); (try (refine hK _ ?_; clear hK K)); try refine iC ?_)
 refine Jm.mk T0 _ hclean (fun i hi => rfl) (by
   show (true && (true && ((AC.yld y).high && true))) = true
   rw [G7 hy]
   rfl) hcon ?_
 rintro r S' hS' (⟨rfl, hI'⟩ | ⟨rfl, hJ⟩)
 ·repeat' with_reducible first | refine W ?_ | refine Z0 ?_ | ((first | refine Wo fun K hK => ?_ | refine Wp ?_ | refine Wq ?_ | refine Wr ?_); (try simp only [go_sem, fN, seval, eT, iR, dT, dF, nL]); (repeat refine Ai ?_); (try (refine hK _ ?_; clear hK K)); try refine iC ?_)
  exact ⟨.tup [], S', .inl hI', CO (.tup []) hS' trivial rfl rfl fun i hi => BF hi⟩
 ·repeat' with_reducible first | refine W ?_ | refine Z0 ?_ | ((first | refine Wo fun K hK => ?_ | refine Wp ?_ | refine Wq ?_ | refine Wr ?_); (try simp only [go_sem, fN, seval, eT, iR, dT, dF, nL]); (repeat refine Ai ?_); (try (refine hK _ ?_; clear hK K)); try refine iC ?_)
  exact ⟨.tup [], S', .inr hJ, CO (.tup []) hS' trivial rfl rfl fun i hi => BF hi⟩

def Fq (r : Tm × Int × Int) : AV := .tup [aTm r.1, AO r.2.1, AO r.2.2]
abbrev FR (t : Tm) : AL := .box 25 [.st (.str t.name), .st (.list (t.args.map Al))]
abbrev QB : AL := .box 25 [.st (.str ⟨#[]⟩), .full []]
theorem Hs {step : Tm → Option (Tm × Int)} {t : Tm} (h : step t = none) (k : Nat) (n : Int) : BN step k n t = (t, n, 0) := by
 cases k <;> (unfold BN; rw [h])
theorem Hv {step : Tm → Option (Tm × Int)} {t : Tm} {r : Tm × Int} (h : step t = some r) (n : Int) : BN step 0 n t = (Tm.nil, 0, 9) := by
 unfold BN
 rw [h]
theorem KA {step : Tm → Option (Tm × Int)} {t x : Tm} {e : Int} (h : step t = some (x, e)) (he : e ≠ 0) (k : Nat) (n : Int) : BN step (k + 1) n t = (Tm.nil, 0, e) := by
 rw [BN, h]
 exact if_pos he
theorem Gy {step : Tm → Option (Tm × Int)} {t x : Tm} (h : step t = some (x, 0)) (hz : 2000 < x.size) (k : Nat) (n : Int) : BN step (k + 1) n t = (Tm.nil, 0, 8) := by
 rw [BN, h]
 simp only [ne_eq, not_true_eq_false, if_false]
 exact if_pos hz
theorem MN {step : Tm → Option (Tm × Int)} {t x : Tm} (h : step t = some (x, 0)) (hz : ¬ 2000 < x.size) (k : Nat) (n : Int) : BN step (k + 1) n t = BN step k (n + 1) x := by
 rw [BN, h]
 simp only [ne_eq, not_true_eq_false, if_false]
 exact if_neg hz
theorem Ps {R : List Pr} (hR : A1 R) (t0 : Tm) (hc0 : t0.chk = 0) (hz0 : t0.size ≤ 900000) (most : Nat) (hm : most ≤ 1000000) : AN Tryz.prog 69 [Bg R, aTm t0, AO most] (Fq (BN (Tm.inn R) most 0 t0)) := by
 unfold Fq
 refine Iu.ac fun C hC => ?_
 unfold E8
 repeat' (first | (with_reducible first | refine W ?_ | refine Z0 ?_ | ((first | refine Wo fun K hK => ?_ | refine Wp ?_ | refine Wq ?_ | refine Wr ?_); (try simp only [go_sem, fN, seval, eT, iR, dT, dF, nL]); (repeat refine Ai ?_); (try (refine hK _ ?_; clear hK K)); try refine iC ?_)) | refine Cg _ (IJ t0 (by omega)) ?_)
 refine IWP.loopD [10] (fun m s => ∃ (n : Nat) (t : Tm), n ≤ most ∧ m = most - n ∧ BN (Tm.inn R) most 0 t0 = BN (Tm.inn R) (most - n) n t ∧ t.chk = 0 ∧ t.size ≤ 900000 ∧ s.env 0 = Bg R ∧ s.env 2 = AO most ∧ s.env 4 = .one (.ptr 4 1 0 0) ∧ s.env 6 = .one (.ptr 6 1 0 0) ∧ s.env 9 = AO n ∧ s.S 4 = some (FR t) ∧ s.S 6 = some QB ∧ s.S 10 = none)
  most ⟨0, t0, by omega, by omega, rfl, hc0, hz0, rfl, rfl, rfl, rfl, rfl, rfl, rfl, rfl⟩ ?_
 rintro m ⟨env, S⟩ ⟨n, t, hn, rfl, hend, hc, hz, e0, e2, e4, e6, e9, s4, s6, s10⟩
 simp only at e0 e2 e4 e6 e9 s4 s6 s10
 rw [hend]
 have hcon := Ni hR t hc (by omega)
 cases hs : t.inn R with
 | none =>
  rw [hs] at hcon
  unfold DW at hcon
  rw [Hs hs]
  repeat' (first | (with_reducible first | refine W ?_ | refine Z0 ?_ | ((first | refine Wo fun K hK => ?_ | refine Wp ?_ | refine Wq ?_ | refine Wr ?_); (try simp only [go_sem, fN, seval, eT, iR, e0, e2, e4, e6, e9, s4, s6, s10, dT, dF, nL]); (repeat refine Ai ?_); (try (refine hK _ ?_; clear hK K)); try refine iC ?_)) | refine Cg _ (hcon) ?_)
  simp only [go_sem, fN, seval, AK, AS.result, AB, AD, AI, e6, s6]
 | some r =>
  obtain ⟨x, e⟩ := r
  rw [hs] at hcon
  unfold DW at hcon
  obtain ⟨g1, g2, g3⟩ := J6 hR hc hs
  by_cases hmost : n = most
  ·have hmi : (n : Int) = most := by omega
   rw [show most - n = 0 by omega, Hv hs]
   repeat' (first | (with_reducible first | refine W ?_ | refine Z0 ?_ | ((first | refine Wo fun K hK => ?_ | refine Wp ?_ | refine Wq ?_ | refine Wr ?_); (try simp only [go_sem, fN, seval, eT, iR, e0, e2, e4, e6, e9, s4, s6, s10, hmi, dT, dF, nL]); (repeat refine Ai ?_); (try (refine hK _ ?_; clear hK K)); try refine iC ?_)) | refine Cg _ (hcon) ?_)
   simp only [go_sem, fN, seval, AK, AS.result, AB, AD, AI, e6, s6]
   rfl
  have hmi : ¬ (n : Int) = most := by omega
  obtain ⟨k, hk⟩ : ∃ k, most - n = k + 1 := ⟨most - n - 1, by omega⟩
  rw [hk]
  by_cases he : e = 0
  case neg =>
   rw [KA hs he]
   repeat' (first | (with_reducible first | refine W ?_ | refine Z0 ?_ | ((first | refine Wo fun K hK => ?_ | refine Wp ?_ | refine Wq ?_ | refine Wr ?_); (try simp only [go_sem, fN, seval, eT, iR, e0, e2, e4, e6, e9, s4, s6, s10, hmi, he, dT, dF, nL]); (repeat refine Ai ?_); (try (refine hK _ ?_; clear hK K)); try refine iC ?_)) | refine Cg _ (hcon) ?_)
   simp only [go_sem, fN, seval, AK, AS.result, AB, AD, AI, e6, s6]
   rfl
  case pos =>
  subst he
  have hsz := JE x (by omega)
  by_cases hgr : (2000 : Int) < x.size
  ·rw [Gy hs (by omega)]
   repeat' (first | (with_reducible first | refine W ?_ | refine Z0 ?_ | ((first | refine Wo fun K hK => ?_ | refine Wp ?_ | refine Wq ?_ | refine Wr ?_); (try simp only [go_sem, fN, seval, eT, iR, e0, e2, e4, e6, e9, s4, s6, s10, hmi, hgr, dT, dF, nL]); (repeat refine Ai ?_); (try (refine hK _ ?_; clear hK K)); try refine iC ?_)) | refine Cg _ (hcon) ?_ | refine Cg _ (hsz) ?_)
   simp only [go_sem, fN, seval, AK, AS.result, AB, AD, AI, e6, s6]
   rfl
  ·repeat' (first | (with_reducible first | refine W ?_ | refine Z0 ?_ | ((first | refine Wo fun K hK => ?_ | refine Wp ?_ | refine Wq ?_ | refine Wr ?_); (try simp only [go_sem, fN, seval, eT, iR, e0, e2, e4, e6, e9, s4, s6, s10, hmi, hgr, dT, dF, nL]); (repeat refine Ai ?_); (try (refine hK _ ?_; clear hK K)); try refine iC ?_)) | refine Cg _ (hcon) ?_ | refine Cg _ (hsz) ?_)
   refine AF ⟨most - (n + 1), by omega, n + 1, x, by omega, rfl, ?_, g2 rfl, by omega, ?_⟩
   ·rw [show most - (n + 1) = k by omega]
    exact MN hs (by omega) k n
   ·simp only [go_sem, fN, seval, AS.drop, Ac, AC.clears, AC.clear, AC.highs, AC.high, Bool.not_false, Bool.true_and, Bool.and_self, AV.purge, AV.purges, AC.purge, AL.purge, List.contains_cons, List.contains_nil, Nat.reduceBEq, Bool.or_self, Bool.or_false, Bool.false_or, Bool.or_true, eT, iR, e0, e2, e4, e6, e9, s4, s6, s10]
    congr 3
def Bt (R : List Pr) (t : Tm) (m : Int) : Tm × Int × Int := if CA R t = 0 then (if Bi m = 0 then BN (Tm.inn R) m.toNat 0 t else (Tm.nil, 0, Bi m)) else (Tm.nil, 0, CA R t)
def Br (R : List Pr) (t : Tm) (m : Int) : Tm × Int × Int := if CA R t = 0 then (if Bi m = 0 then BN (Tm.out R) m.toNat 0 t else (Tm.nil, 0, Bi m)) else (Tm.nil, 0, CA R t)
theorem Ek {R : List Pr} {t : Tm} (h : CA R t = 0) : A1 R ∧ t.chk = 0 ∧ t.size ≤ 200 := by
 unfold CA at h
 by_cases h0 : A3 R = 0
 ·rw [if_pos h0] at h
  exact ⟨F4 h0, Tm.may_chk h⟩
 ·rw [if_neg h0] at h
  exact absurd h h0
theorem Er {m : Int} (h : Bi m = 0) : 0 ≤ m ∧ m ≤ 400 := by
 unfold Bi at h
 split at h
 ·cases h
 ·omega
theorem T3 (R : List Pr) (t : Tm) (m : Int) : AN Tryz.prog 39 [Bg R, aTm t, AO m] (Fq (Bt R t m)) := by
 unfold Bt
 refine H3.ac fun C hC => ?_
 unfold EL
 by_cases ha : CA R t = 0
 case neg =>
  rw [if_neg ha]
  unfold Fq
  repeat' (first | (with_reducible first | refine W ?_ | refine Z0 ?_ | ((first | refine Wo fun K hK => ?_ | refine Wp ?_ | refine Wq ?_ | refine Wr ?_); (try simp only [go_sem, fN, seval, eT, iR, ha, dT, dF, nL]); (repeat refine Ai ?_); (try (refine hK _ ?_; clear hK K)); try refine iC ?_)) | refine Cg _ (BP R t) ?_)
  simp only [go_sem, fN, seval, AK, AS.result, AB, AD, AI]
  rfl
 case pos =>
 rw [if_pos ha]
 by_cases hf : Bi m = 0
 case neg =>
  rw [if_neg hf]
  unfold Fq
  repeat' (first | (with_reducible first | refine W ?_ | refine Z0 ?_ | ((first | refine Wo fun K hK => ?_ | refine Wp ?_ | refine Wq ?_ | refine Wr ?_); (try simp only [go_sem, fN, seval, eT, iR, ha, hf, dT, dF, nL]); (repeat refine Ai ?_); (try (refine hK _ ?_; clear hK K)); try refine iC ?_)) | refine Cg _ (BP R t) ?_ | refine Cg _ (GZ m) ?_)
  simp only [go_sem, fN, seval, AK, AS.result, AB, AD, AI]
  rfl
 case pos =>
 rw [if_pos hf]
 obtain ⟨hR, hc, hz⟩ := Ek ha
 obtain ⟨m0, m1⟩ := Er hf
 obtain ⟨n, rfl⟩ : ∃ n : Nat, m = n := ⟨m.toNat, by omega⟩
 rw [Int.toNat_natCast]
 have hl := Ps hR t hc (by omega) n (by omega)
 unfold Fq at hl ⊢
 by_cases he : (BN (Tm.inn R) n 0 t).2.2 = 0
 ·repeat' (first | (with_reducible first | refine W ?_ | refine Z0 ?_ | ((first | refine Wo fun K hK => ?_ | refine Wp ?_ | refine Wq ?_ | refine Wr ?_); (try simp only [go_sem, fN, seval, eT, iR, ha, hf, he, dT, dF, nL]); (repeat refine Ai ?_); (try (refine hK _ ?_; clear hK K)); try refine iC ?_)) | refine Cg _ (BP R t) ?_ | refine Cg _ (GZ n) ?_ | refine Cg _ (hl) ?_)
  simp only [go_sem, fN, seval, AK, AS.result, AB, AD, AI]
 ·have hbad := HF n 0 t he
  generalize BN (Tm.inn R) n 0 t = r at hl he hbad ⊢
  rw [hbad]
  dsimp only
  repeat' (first | (with_reducible first | refine W ?_ | refine Z0 ?_ | ((first | refine Wo fun K hK => ?_ | refine Wp ?_ | refine Wq ?_ | refine Wr ?_); (try simp only [go_sem, fN, seval, eT, iR, ha, hf, he, dT, dF, nL]); (repeat refine Ai ?_); (try (refine hK _ ?_; clear hK K)); try refine iC ?_)) | refine Cg _ (BP R t) ?_ | refine Cg _ (GZ n) ?_ | refine Cg _ (hl) ?_)
  simp only [go_sem, fN, seval, AK, AS.result, AB, AD, AI]
  rfl
theorem UG (R : List Pr) (t0 : Tm) (m : Int) : AN Tryz.prog 40 [Bg R, aTm t0, AO m] (Fq (Br R t0 m)) := by
 unfold Br
 refine ID.ac fun C hC => ?_
 unfold Eh
 by_cases ha : CA R t0 = 0
 case neg =>
  rw [if_neg ha]
  unfold Fq
  repeat' (first | (with_reducible first | refine W ?_ | refine Z0 ?_ | ((first | refine Wo fun K hK => ?_ | refine Wp ?_ | refine Wq ?_ | refine Wr ?_); (try simp only [go_sem, fN, seval, eT, iR, ha, dT, dF, nL]); (repeat refine Ai ?_); (try (refine hK _ ?_; clear hK K)); try refine iC ?_)) | refine Cg _ (BP R t0) ?_)
  simp only [go_sem, fN, seval, AK, AS.result, AB, AD, AI]
  rfl
 case pos =>
 rw [if_pos ha]
 by_cases hf : Bi m = 0
 case neg =>
  rw [if_neg hf]
  unfold Fq
  repeat' (first | (with_reducible first | refine W ?_ | refine Z0 ?_ | ((first | refine Wo fun K hK => ?_ | refine Wp ?_ | refine Wq ?_ | refine Wr ?_); (try simp only [go_sem, fN, seval, eT, iR, ha, hf, dT, dF, nL]); (repeat refine Ai ?_); (try (refine hK _ ?_; clear hK K)); try refine iC ?_)) | refine Cg _ (BP R t0) ?_ | refine Cg _ (GZ m) ?_)
  simp only [go_sem, fN, seval, AK, AS.result, AB, AD, AI]
  rfl
 case pos =>
 rw [if_pos hf]
 obtain ⟨hR, hc0, hz0⟩ := Ek ha
 obtain ⟨m0, m1⟩ := Er hf
 obtain ⟨most, rfl⟩ : ∃ n : Nat, m = n := ⟨m.toNat, by omega⟩
 rw [Int.toNat_natCast]
 unfold Fq
 repeat' (first | (with_reducible first | refine W ?_ | refine Z0 ?_ | ((first | refine Wo fun K hK => ?_ | refine Wp ?_ | refine Wq ?_ | refine Wr ?_); (try simp only [go_sem, fN, seval, eT, iR, ha, hf, dT, dF, nL]); (repeat refine Ai ?_); (try (refine hK _ ?_; clear hK K)); try refine iC ?_)) | refine Cg _ (BP R t0) ?_ | refine Cg _ (GZ most) ?_ | refine Cg _ (IJ t0 (by omega)) ?_)
 refine IWP.loopD [11] (fun m s => ∃ (n : Nat) (t : Tm), n ≤ most ∧ m = most - n ∧ BN (Tm.out R) most 0 t0 = BN (Tm.out R) (most - n) n t ∧ t.chk = 0 ∧ t.size ≤ 900000 ∧ s.env 0 = Bg R ∧ s.env 2 = AO most ∧ s.env 4 = .one (.ptr 4 1 0 0) ∧ s.env 6 = .one (.ptr 6 1 0 0) ∧ s.env 10 = AO n ∧ s.S 4 = some (FR t) ∧ s.S 6 = some QB ∧ s.S 11 = none)
  most ⟨0, t0, by omega, by omega, rfl, hc0, by omega, rfl, rfl, rfl, rfl, rfl, rfl, rfl, rfl⟩ ?_
 rintro m ⟨env, S⟩ ⟨n, t, hn, rfl, hend, hc, hz, e0, e2, e4, e6, e10, s4, s6, s11⟩
 simp only at e0 e2 e4 e6 e10 s4 s6 s11
 rw [hend]
 have hcon := Ng hR t hc (by omega)
 cases hs : t.out R with
 | none =>
  rw [hs] at hcon
  unfold DW at hcon
  rw [Hs hs]
  repeat' (first | (with_reducible first | refine W ?_ | refine Z0 ?_ | ((first | refine Wo fun K hK => ?_ | refine Wp ?_ | refine Wq ?_ | refine Wr ?_); (try simp only [go_sem, fN, seval, eT, iR, e0, e2, e4, e6, e10, s4, s6, s11, dT, dF, nL]); (repeat refine Ai ?_); (try (refine hK _ ?_; clear hK K)); try refine iC ?_)) | refine Cg _ (hcon) ?_)
  simp only [go_sem, fN, seval, AK, AS.result, AB, AD, AI, e6, s6]
 | some r =>
  obtain ⟨x, e⟩ := r
  rw [hs] at hcon
  unfold DW at hcon
  obtain ⟨g1, g2, g3⟩ := JM hR hc hs
  by_cases hmost : n = most
  ·have hmi : (n : Int) = most := by omega
   rw [show most - n = 0 by omega, Hv hs]
   repeat' (first | (with_reducible first | refine W ?_ | refine Z0 ?_ | ((first | refine Wo fun K hK => ?_ | refine Wp ?_ | refine Wq ?_ | refine Wr ?_); (try simp only [go_sem, fN, seval, eT, iR, e0, e2, e4, e6, e10, s4, s6, s11, hmi, dT, dF, nL]); (repeat refine Ai ?_); (try (refine hK _ ?_; clear hK K)); try refine iC ?_)) | refine Cg _ (hcon) ?_)
   simp only [go_sem, fN, seval, AK, AS.result, AB, AD, AI, e6, s6]
   rfl
  have hmi : ¬ (n : Int) = most := by omega
  obtain ⟨k, hk⟩ : ∃ k, most - n = k + 1 := ⟨most - n - 1, by omega⟩
  rw [hk]
  by_cases he : e = 0
  case neg =>
   rw [KA hs he]
   repeat' (first | (with_reducible first | refine W ?_ | refine Z0 ?_ | ((first | refine Wo fun K hK => ?_ | refine Wp ?_ | refine Wq ?_ | refine Wr ?_); (try simp only [go_sem, fN, seval, eT, iR, e0, e2, e4, e6, e10, s4, s6, s11, hmi, he, dT, dF, nL]); (repeat refine Ai ?_); (try (refine hK _ ?_; clear hK K)); try refine iC ?_)) | refine Cg _ (hcon) ?_)
   simp only [go_sem, fN, seval, AK, AS.result, AB, AD, AI, e6, s6]
   rfl
  case pos =>
  subst he
  have hsz := JE x (by omega)
  by_cases hgr : (2000 : Int) < x.size
  ·rw [Gy hs (by omega)]
   repeat' (first | (with_reducible first | refine W ?_ | refine Z0 ?_ | ((first | refine Wo fun K hK => ?_ | refine Wp ?_ | refine Wq ?_ | refine Wr ?_); (try simp only [go_sem, fN, seval, eT, iR, e0, e2, e4, e6, e10, s4, s6, s11, hmi, hgr, dT, dF, nL]); (repeat refine Ai ?_); (try (refine hK _ ?_; clear hK K)); try refine iC ?_)) | refine Cg _ (hcon) ?_ | refine Cg _ (IJ x (by omega)) ?_ | refine Cg _ (hsz) ?_)
   simp only [go_sem, fN, seval, AK, AS.result, AB, AD, AI, e6, s6]
   rfl
  ·repeat' (first | (with_reducible first | refine W ?_ | refine Z0 ?_ | ((first | refine Wo fun K hK => ?_ | refine Wp ?_ | refine Wq ?_ | refine Wr ?_); (try simp only [go_sem, fN, seval, eT, iR, e0, e2, e4, e6, e10, s4, s6, s11, hmi, hgr, dT, dF, nL]); (repeat refine Ai ?_); (try (refine hK _ ?_; clear hK K)); try refine iC ?_)) | refine Cg _ (hcon) ?_ | refine Cg _ (IJ x (by omega)) ?_ | refine Cg _ (hsz) ?_)
   refine AF ⟨most - (n + 1), by omega, n + 1, x, by omega, rfl, ?_, g2 rfl, by omega, ?_⟩
   ·rw [show most - (n + 1) = k by omega]
    exact MN hs (by omega) k n
   ·simp only [go_sem, fN, seval, AS.drop, Ac, AC.clears, AC.clear, AC.highs, AC.high, Bool.not_false, Bool.true_and, Bool.and_self, AV.purge, AV.purges, AC.purge, AL.purge, List.contains_cons, List.contains_nil, Nat.reduceBEq, Bool.or_self, Bool.or_false, Bool.false_or, Bool.or_true, eT, iR, e0, e2, e4, e6, e10, s4, s6, s11]
    congr 3
theorem Uw {R : List Pr} (hR : A1 R) (a b : Tm) (ha : a.chk = 0) (hb : b.chk = 0) (za : a.size ≤ 900000) (zb : b.size ≤ 900000) (most : Nat) (hm : most ≤ 1000000) : AN Tryz.prog 71 [Bg R, aTm a, aTm b, AO most] (.tup [Ad (HQ R most a b).1, AO (HQ R most a b).2]) := by
 have l1 := Ps hR a ha za most hm
 have l2 := Ps hR b hb zb most hm
 have hmet : HQ R most a b = if (BN (Tm.inn R) most 0 a).2.2 ≠ 0 then (false, (BN (Tm.inn R) most 0 a).2.2) else if (BN (Tm.inn R) most 0 b).2.2 ≠ 0 then (false, (BN (Tm.inn R) most 0 b).2.2) else ((BN (Tm.inn R) most 0 a).1.beq (BN (Tm.inn R) most 0 b).1, 0) := rfl
 rw [hmet]
 unfold Fq at l1 l2
 generalize BN (Tm.inn R) most 0 a = x at *
 generalize BN (Tm.inn R) most 0 b = y at *
 clear hmet
 refine JL.ac fun C hC => ?_
 unfold FZ
 by_cases h1 : x.2.2 = 0
 case neg =>
  rw [if_pos h1]
  repeat' (first | (with_reducible first | refine W ?_ | refine Z0 ?_ | ((first | refine Wo fun K hK => ?_ | refine Wp ?_ | refine Wq ?_ | refine Wr ?_); (try simp only [go_sem, fN, seval, eT, iR, h1, dT, dF, nL]); (repeat refine Ai ?_); (try (refine hK _ ?_; clear hK K)); try refine iC ?_)) | refine Cg _ (l1) ?_)
  simp only [go_sem, fN, seval, AK, AS.result, AB, AD, AI]
 case pos =>
 rw [if_neg (fun h => h h1)]
 by_cases h2 : y.2.2 = 0
 case neg =>
  rw [if_pos h2]
  repeat' (first | (with_reducible first | refine W ?_ | refine Z0 ?_ | ((first | refine Wo fun K hK => ?_ | refine Wp ?_ | refine Wq ?_ | refine Wr ?_); (try simp only [go_sem, fN, seval, eT, iR, h1, h2, dT, dF, nL]); (repeat refine Ai ?_); (try (refine hK _ ?_; clear hK K)); try refine iC ?_)) | refine Cg _ (l1) ?_ | refine Cg _ (l2) ?_)
  simp only [go_sem, fN, seval, AK, AS.result, AB, AD, AI]
 case pos =>
 rw [if_neg (fun h => h h2)]
 repeat' (first | (with_reducible first | refine W ?_ | refine Z0 ?_ | ((first | refine Wo fun K hK => ?_ | refine Wp ?_ | refine Wq ?_ | refine Wr ?_); (try simp only [go_sem, fN, seval, eT, iR, h1, h2, dT, dF, nL]); (repeat refine Ai ?_); (try (refine hK _ ?_; clear hK K)); try refine iC ?_)) | refine Cg _ (l1) ?_ | refine Cg _ (l2) ?_ | refine Cg _ (Sw x.1 y.1) ?_)
 simp only [go_sem, fN, seval, AK, AS.result, AB, AD, AI]
def DA (R : List Pr) (a b : Tm) (m : Int) : Bool × Int := if CA R a = 0 then (if b.may = 0 then (if Bi m = 0 then HQ R m.toNat a b else (false, Bi m)) else (false, b.may)) else (false, CA R a)
theorem Un (R : List Pr) (a b : Tm) (m : Int) : AN Tryz.prog 41 [Bg R, aTm a, aTm b, AO m] (.tup [Ad (DA R a b m).1, AO (DA R a b m).2]) := by
 unfold DA
 refine I2.ac fun C hC => ?_
 unfold E6
 by_cases ha : CA R a = 0
 case neg =>
  rw [if_neg ha]
  repeat' (first | (with_reducible first | refine W ?_ | refine Z0 ?_ | ((first | refine Wo fun K hK => ?_ | refine Wp ?_ | refine Wq ?_ | refine Wr ?_); (try simp only [go_sem, fN, seval, eT, iR, ha, dT, dF, nL]); (repeat refine Ai ?_); (try (refine hK _ ?_; clear hK K)); try refine iC ?_)) | refine Cg _ (BP R a) ?_)
  simp only [go_sem, fN, seval, AK, AS.result, AB, AD, AI]
 case pos =>
 rw [if_pos ha]
 by_cases hb : b.may = 0
 case neg =>
  rw [if_neg hb]
  repeat' (first | (with_reducible first | refine W ?_ | refine Z0 ?_ | ((first | refine Wo fun K hK => ?_ | refine Wp ?_ | refine Wq ?_ | refine Wr ?_); (try simp only [go_sem, fN, seval, eT, iR, ha, hb, dT, dF, nL]); (repeat refine Ai ?_); (try (refine hK _ ?_; clear hK K)); try refine iC ?_)) | refine Cg _ (BP R a) ?_ | refine Cg _ (Dy b) ?_)
  simp only [go_sem, fN, seval, AK, AS.result, AB, AD, AI]
 case pos =>
 rw [if_pos hb]
 by_cases hf : Bi m = 0
 case neg =>
  rw [if_neg hf]
  repeat' (first | (with_reducible first | refine W ?_ | refine Z0 ?_ | ((first | refine Wo fun K hK => ?_ | refine Wp ?_ | refine Wq ?_ | refine Wr ?_); (try simp only [go_sem, fN, seval, eT, iR, ha, hb, hf, dT, dF, nL]); (repeat refine Ai ?_); (try (refine hK _ ?_; clear hK K)); try refine iC ?_)) | refine Cg _ (BP R a) ?_ | refine Cg _ (Dy b) ?_ | refine Cg _ (GZ m) ?_)
  simp only [go_sem, fN, seval, AK, AS.result, AB, AD, AI]
 case pos =>
 rw [if_pos hf]
 obtain ⟨hR, hc, hz⟩ := Ek ha
 obtain ⟨hcb, hzb⟩ := Tm.may_chk hb
 obtain ⟨m0, m1⟩ := Er hf
 obtain ⟨n, rfl⟩ : ∃ n : Nat, m = n := ⟨m.toNat, by omega⟩
 rw [Int.toNat_natCast]
 have hmet := Uw hR a b hc hcb (by omega) (by omega) n (by omega)
 repeat' (first | (with_reducible first | refine W ?_ | refine Z0 ?_ | ((first | refine Wo fun K hK => ?_ | refine Wp ?_ | refine Wq ?_ | refine Wr ?_); (try simp only [go_sem, fN, seval, eT, iR, ha, hb, hf, dT, dF, nL]); (repeat refine Ai ?_); (try (refine hK _ ?_; clear hK K)); try refine iC ?_)) | refine Cg _ (BP R a) ?_ | refine Cg _ (Dy b) ?_ | refine Cg _ (GZ n) ?_ | refine Cg _ (hmet) ?_)
 simp only [go_sem, fN, seval, AK, AS.result, AB, AD, AI]

theorem IWP.at_ {P : Program} {C : Ctx} {mu : List Nat} {x : IR} {Q : AX → AS → Prop} {env0 : Nat → AV} {S0 : AA} (M : (Nat → AV) → AA → Prop) (hM : M env0 S0) (h : ∀ env S, M env S → IWP P C mu x Q ⟨env, S⟩) : IWP P C mu x Q ⟨env0, S0⟩ := h _ _ hM
section
variable {C : Ctx} {s : AS}
theorem Aa.ownCM (id j nid : Nat) (e : TypeId) (wd : Nat) {ty : TypeId} {cs : List AC} (hb : s.S id = some (.box ty cs)) (hc : cs[j]? = some (.full [])) (hn : s.S nid = none) :
  Aa C s ((s.set nid (.mrow e wd [])).set id (.box ty (cs.set j (.row nid 0)))) := fun a w ⟨σ, ι, R⟩ => by
 have hbk := R.blk id _ hb
 have hne : id ≠ nid := fun e => by subst e; rw [hb] at hn; cases hn
 cases hbk with
 | @box _ _ g vs h1 h2 h3 h4 h5 =>
  obtain ⟨v, hv, hr⟩ := h4.get hc
  cases hr with
  | @full p len _ hs =>
   have hl : len = 0 := by
    obtain ⟨p', cap', e1, _⟩ := B9 hs
    cases e1
    rfl
   subst hl
   obtain ⟨hu, R'⟩ := R.fresh (w' := w) hn (.mrow e wd []) ⟨p, 0, none⟩ (Ext.refl _ _) R.fit (Below.refl _ _) (by simp) (fun S' ι' hu => .mnil rfl rfl)
   have hb' : (s.set nid (.mrow e wd [])).S id = some (.box ty cs) := by simp [AS.set, AH _ hne, hb]
   have hι : AG ι nid ⟨p, 0, none⟩ id = ι id := AH _ hne _
   obtain ⟨hu2, R2⟩ := R'.turn (w' := w) hb' (.box ty (cs.set j (.row nid 0))) (AG ι nid ⟨p, 0, none⟩ id) (σ' := σ) (fun _ _ h => h) (fun _ _ _ => rfl) R.fit (Nat.le_refl _) (fun _ => ⟨by simp [AL.wid], rfl⟩) ⟨rfl, rfl, rfl⟩ (Nat.le_refl _) (fun _ _ _ => rfl) (fun g h => .inl h) (fun hu2 => by
    refine .box (by rw [hι]; exact h1) (by rw [hι]; exact h2) h3 (Ag.of_get (by rw [List.length_set]; exact h4.len) fun k u c hu' hck => ?_) h5
    by_cases hk : k = j
    ·subst hk
     rw [hv] at hu'
     cases hu'
     have hlt : k < cs.length := (List.getElem?_eq_some_iff.1 hc).1
     rw [List.getElem?_set_self hlt] at hck
     cases hck
     exact .row (b := .mrow e wd []) (by simp [AS.set, AG, hne.symm]) (Nat.le_refl _) rfl fun _ => by simp [AG, hne.symm]
    ·rw [List.getElem?_set_ne (fun e => hk e.symm)] at hck
     obtain ⟨u', q1, q2⟩ := h4.get hck
     rw [hu'] at q1
     cases q1
     exact (q2.mono (fun _ _ h => h) hu).mono (fun _ _ h => h) hu2)
   exact ⟨_, _, R2⟩
end
theorem OV {S U : AA} (hU : Ar U) (h : ∀ i, 1000 ≤ i → S i = U i) : Bl S = U := by
 funext i
 show (if i < 1000 then none else S i) = U i
 by_cases hi : i < 1000
 ·rw [if_pos hi, Aj hU hi]
 ·rw [if_neg hi, h i (by omega)]
theorem Q9 {S : AA} (h : ∀ i b, 1000 ≤ i → S i = some b → b.high = true) : Ar (Bl S) := fun i b hb => by
 have hb : (if i < 1000 then none else S i) = some b := hb
 by_cases hi : i < 1000
 ·rw [if_pos hi] at hb
  cases hb
 ·rw [if_neg hi] at hb
  exact ⟨by omega, h i b (by omega) hb⟩
theorem Lk {S : AA} (h : ∀ i b, 1000 ≤ i → S i = some b → b.high = true) {j : Nat} {b : AL} (hb : b.high = true) : ∀ i b', 1000 ≤ i → AG S j (some b) i = some b' → b'.high = true := fun i b' hi he => by
 by_cases e : i = j
 ·subst e
  rw [AE] at he
  cases he
  exact hb
 ·rw [AH _ e] at he
  exact h i b' hi he
theorem L6 {S : AA} (h : ∀ i b, 1000 ≤ i → S i = some b → b.high = true) {j : Nat} (hj : j < 1000) {c : Option AL} : ∀ i b', 1000 ≤ i → AG S j c i = some b' → b'.high = true := fun i b' hi he => by
 rw [AH _ (by omega)] at he
 exact h i b' hi he
def ES (S : AA) (out : List Tm) : AA := AG (AG (upS S) 1500 (some (.mrow 25 2 (out.map Al)))) 1006 (some (.box 23 [.row 1500 out.length]))
theorem E2 {S : AA} {out : List Tm} {i : Nat} (h : i ≠ 1500) (h' : i ≠ 1006) : ES S out i = upS S i := by
 rw [ES, AH _ h', AH _ h]
theorem Ra {C : Ctx} {y : Nat} {b : AL} {N : AA → Prop} {Jx : AX → AA → Prop} {env : Nat → AV} {S : AA} (U : AA) (hU : Ar (AG U y (some b))) (hy : U y = none) (hS : ∀ i, 1000 ≤ i → S i = AG U y (some b) i) (hN : N U) : Mq C y b N Jx .normal ⟨env, S⟩ :=
 ⟨⟨fun i => (env i).low, Bl S⟩, U, Aa.low (s := ⟨env, S⟩) (fun i b' hi h => by
  have h : S i = some b' := h
  rw [hS i hi] at h
  exact (hU i b' h).2), OV hU hS, by
  show Ar (Bl S)
  rw [OV hU hS]
  exact hU, hy, hN⟩
theorem Ly {C : Ctx} {y : Nat} {b : AL} {N : AA → Prop} {Jx : AX → AA → Prop} {env : Nat → AV} {S : AA} (h : ∀ i b, 1000 ≤ i → S i = some b → b.high = true) (hy : 1000 ≤ y) (hSy : S y = some b) (hJ : Jx .ret (AG (Bl S) y none)) : Mq C y b N Jx .ret ⟨env, S⟩ :=
 ⟨⟨fun i => (env i).low, Bl S⟩, AG (Bl S) y none, Aa.low (s := ⟨env, S⟩) h, by
  show Bl S = _
  rw [L7]
  refine (LU ?_).symm
  show (if y < 1000 then none else S y) = some b
  rw [if_neg (by omega), hSy], Q9 h, AE _ _ _, hJ⟩
theorem M8 {S : AA} {i y : Nat} {c : Option AL} (h : 1000 ≤ i) (hne : i ≠ y) : AG (Bl S) y c i = S i := by
 rw [AH _ hne]
 show (if i < 1000 then none else S i) = S i
 rw [if_neg (by omega)]
abbrev Um (R : List Pr) : AL := .box 22 [.st (.list (R.map CR))]
abbrev Nm (i : Int) : AL := .box 28 [.st (.int .i64 i)]
def Ce (o : Option (List Tm)) : AV := match o with
 | none => .tup [FH [], AO 8]
 | some l => .tup [FH l, AO 0]
theorem SI {R : List Pr} (hR : A1 R) (t : Tm) (hc : t.chk = 0) (hz : t.size ≤ 2000) : AN Tryz.prog 29 [Bg R, aTm t] (Ce (C9 R t)) := by
 rw [Kb]
 have h40 := hR.len
 refine I1.acT fun C hC htop => ?_
 unfold FD
 repeat' (first | (with_reducible first | refine W ?_ | refine Z0 ?_ | ((first | refine Wo fun K hK => ?_ | refine Wp ?_ | refine Wq ?_ | refine Wr ?_); (try simp only [go_sem, fN, seval, eT, iR, dT, dF, nL]); (repeat refine Ai ?_); (try (refine hK _ ?_; clear hK K)); try refine iC ?_)) | refine Cg _ (UU t) ?_)
 refine IWP.at_ (fun env S => env 2 = .one (.ptr 2 1 0 0) ∧ env 4 = .one (.ptr 4 1 0 0) ∧ env 5 = .one (.ptr 5 1 0 0) ∧ env 6 = .one (.ptr 6 1 0 0) ∧ env 7 = .one (.ptr 7 1 0 0) ∧ env 15 = .one (.fn 78 [.eptr (C8 t), .eptr [svW []]]) ∧ S 2 = some (Um R) ∧ S 4 = some (.box 23 [.full []]) ∧ S 5 = some (Nm 0) ∧ S 6 = some (.box 23 [.full []]) ∧ S 7 = some (Nm 0) ∧ S 500 = none ∧ S 501 = none) ⟨rfl, rfl, rfl, rfl, rfl, rfl, rfl, rfl, rfl, rfl, rfl, rfl, rfl⟩ ?_
 rintro env S0 ⟨e2, e4, e5, e6, e7, e15, s2, s4, s5, s6, s7, s500, s501⟩
 refine IWP.ghost (Aa.ownCM 6 0 500 25 2 s6 rfl s500) ?_
 refine IWP.at_ (fun env' S => env' = env ∧ S 2 = some (Um R) ∧ S 4 = some (.box 23 [.full []]) ∧ S 5 = some (Nm 0) ∧ S 6 = some (.box 23 [.row 500 0]) ∧ S 7 = some (Nm 0) ∧ S 500 = some (.mrow 25 2 []) ∧ S 501 = none) ⟨rfl, by simp only [go_sem, fN, seval, eT, iR, s2], by simp only [go_sem, fN, seval, eT, iR, s4], by simp only [go_sem, fN, seval, eT, iR, s5], by simp only [go_sem, fN, seval, eT, iR]; rfl, by simp only [go_sem, fN, seval, eT, iR, s7], by simp only [go_sem, fN, seval, eT, iR], by simp only [go_sem, fN, seval, eT, iR, s501]⟩ ?_
 clear s2 s4 s5 s6 s7 s500 s501 S0
 rintro env' S0 ⟨rfl, s2, s4, s5, s6, s7, s500, s501⟩
 refine IWP.rangeF htop 501 (by decide) s501 (show AS.ev _ (.t 15) = _ from e15) (by kernel_rfl) (Ox t (by omega)) (fun _ => rfl) (fun pre U => ∃ out, BB R (pre.map Ci) = some out ∧ U = ES S0 out) (fun ex U => ex = .ret ∧ BB R ((t.visits []).map Ci) = none ∧ U 1004 = some (.box 23 [.full []]) ∧ U 1005 = some (Nm 8)) ⟨[], rfl, ?_⟩ (fun _ _ _ _ _ => trivial) ?_ ?_ ?_
 ·funext i
  unfold ES AG
  split
  ·rename_i h
   subst h
   exact CF s6
  ·split
   ·rename_i h
    subst h
    exact CF s500
   ·rfl
 ·rintro C' b0 b1 pre v U hC' hpre ⟨out, ho, rfl⟩ hU hcl hb1
  have hv : v ∈ t.visits [] := by
   obtain ⟨tl, htl⟩ := hpre
   rw [← htl]
   simp
  obtain ⟨hsur, hkn⟩ := Lx t [] trivial (by omega) v hv
  have hvc := JO t v.2 hc hkn
  have hvz := De t v.2 hkn
  have hlen := C2 ho
  have hpl := hpre.length_le
  rw [List.length_append, PY] at hpl
  rw [List.length_map] at hlen
  have hlen2 : out.length ≤ 80000 := Nat.le_trans hlen (Nat.mul_le_mul (show pre.length ≤ 2000 by simp at hpl; omega) h40)
  have n8 : ES S0 out 8 = none := Aj hcl (by decide)
  have n11 : ES S0 out 11 = none := Aj hcl (by decide)
  have w2 : Ei C.n env' 2 = .one (.ptr 1002 1 0 0) := by rw [Ei, if_pos (by omega), e2]; rfl
  have w4 : Ei C.n env' 4 = .one (.ptr 1004 1 0 0) := by rw [Ei, if_pos (by omega), e4]; rfl
  have w5 : Ei C.n env' 5 = .one (.ptr 1005 1 0 0) := by rw [Ei, if_pos (by omega), e5]; rfl
  have w6 : Ei C.n env' 6 = .one (.ptr 1006 1 0 0) := by rw [Ei, if_pos (by omega), e6]; rfl
  have w7 : Ei C.n env' 7 = .one (.ptr 1007 1 0 0) := by rw [Ei, if_pos (by omega), e7]; rfl
  have u501 : up1 501 = 1501 := rfl
  unfold Tr
  repeat' with_reducible first | refine W ?_ | refine Z0 ?_ | ((first | refine Wo fun K hK => ?_ | refine Wp ?_ | refine Wq ?_ | refine Wr ?_); (try simp only [go_sem, fN, seval, eT, iR, L8, n8, n11, u501, dT, dF, nL]); (repeat refine Ai ?_); (try (refine hK _ ?_; clear hK K)); try refine iC ?_)
  refine AF ⟨by simp only [go_sem, fN, seval, eT, iR, u501], ?_⟩
  have hst : ∀ i, 1000 ≤ i → AG (AG (AG (AG (ES S0 out) 1501 (some b0)) 8 (some (.box 25 [.st (.str ⟨#[]⟩), .full []]))) 8 (some (.box 25 [.st (.str v.2.name), .st (.list (v.2.args.map Al))]))) 1501 (some b1) i = AG (ES S0 out) 1501 (some b1) i := fun i hi => by
   by_cases h : i = 1501
   ·subst h
    rw [AE, AE]
   ·rw [AH _ h, AH _ h, AH _ (by omega), AH _ (by omega), AH _ h]
  repeat' with_reducible first | refine W ?_ | refine Z0 ?_ | ((first | refine Wo fun K hK => ?_ | refine Wp ?_ | refine Wq ?_ | refine Wr ?_); (try simp only [go_sem, fN, seval, eT, iR, u501, dT, dF, nL]); (repeat refine Ai ?_); (try (refine hK _ ?_; clear hK K)); try refine iC ?_)
  refine IWP.loopD [11] (fun m s => ∃ f o2, f ≤ R.length ∧ o2.length ≤ f ∧ m = R.length - f ∧ CE (Ci v) R = (CE (Ci v) (R.drop f)).map (o2 ++ ·) ∧ s.env 2 = .one (.ptr 1002 1 0 0) ∧ s.env 4 = .one (.ptr 1004 1 0 0) ∧ s.env 5 = .one (.ptr 1005 1 0 0) ∧ s.env 6 = .one (.ptr 1006 1 0 0) ∧ s.env 7 = .one (.ptr 1007 1 0 0) ∧ s.env 8 = .one (.ptr 8 1 0 0) ∧ s.env 9 = .one (.st (svW v.1)) ∧ s.env 10 = AO f ∧ s.S 8 = some (.box 25 [.st (.str v.2.name), .st (.list (v.2.args.map Al))]) ∧ s.S 11 = none ∧ ∀ i, 1000 ≤ i → s.S i = AG (ES S0 (out ++ o2)) 1501 (some b1) i) R.length ⟨0, [], Nat.zero_le _, Nat.zero_le _, rfl, ?_, ?_, ?_, ?_, ?_, ?_, ?_, ?_, ?_, ?_, ?_, ?_⟩ ?_
  ·simp
  ·simp only [go_sem, fN, seval, eT, iR, w2]
  ·simp only [go_sem, fN, seval, eT, iR, w4]
  ·simp only [go_sem, fN, seval, eT, iR, w5]
  ·simp only [go_sem, fN, seval, eT, iR, w6]
  ·simp only [go_sem, fN, seval, eT, iR, w7]
  ·simp only [go_sem, fN, seval, eT, iR]
  ·simp only [go_sem, fN, seval, eT, iR]
  ·simp only [go_sem, fN, seval, eT, iR]
  ·simp only [go_sem, fN, seval, eT, iR, u501]
  ·simp only [go_sem, fN, seval, eT, iR, n11, u501]
  ·rw [List.append_nil]
   exact hst
  rintro m ⟨env1, S1⟩ ⟨f, o2, hf, hfo, rfl, hoff, x2, x4, x5, x6, x7, x8, x9, x10, s8, s11, hS⟩
  simp only at x2 x4 x5 x6 x7 x8 x9 x10 s8 s11 hS
  have hout : ∀ o, Ar (ES S0 (out ++ o)) := fun o => A9 (A9 (H_ S0) (by decide) rfl) (by decide) rfl
  have t2 : S1 1002 = some (Um R) := by rw [hS 1002 (by decide), AH _ (by decide), E2 (by decide) (by decide)]; exact CF s2
  have t4 : S1 1004 = some (.box 23 [.full []]) := by rw [hS 1004 (by decide), AH _ (by decide), E2 (by decide) (by decide)]; exact CF s4
  have t5 : S1 1005 = some (Nm 0) := by rw [hS 1005 (by decide), AH _ (by decide), E2 (by decide) (by decide)]; exact CF s5
  have t7 : S1 1007 = some (Nm 0) := by rw [hS 1007 (by decide), AH _ (by decide), E2 (by decide) (by decide)]; exact CF s7
  have t6 : S1 1006 = some (.box 23 [.row 1500 (out ++ o2).length]) := by rw [hS 1006 (by decide), AH _ (by decide)]; rfl
  have t15 : S1 1500 = some (.mrow 25 2 ((out ++ o2).map Al)) := by rw [hS 1500 (by decide), AH _ (by decide)]; rfl
  have t1501 : S1 1501 = some b1 := by rw [hS 1501 (by decide), AE]
  have hhi : ∀ i b, 1000 ≤ i → S1 i = some b → b.high = true := fun i b hi h => by
   rw [hS i hi] at h
   exact ((A9 (hout o2) (by decide) hb1) i b h).2
  have hbad : CE (Ci v) R = none → BB R ((t.visits []).map Ci) = none := fun h => by
   obtain ⟨tl, htl⟩ := hpre
   rw [← htl, List.append_assoc, List.map_append, List.singleton_append, List.map_cons]
   exact J8 h
  have hroot := PC hR v.2 hvc (by omega) f hf
  rcases LW (Ci v) (R.drop f) f with ⟨hr, ho2⟩ | ⟨i, y, r, hi1, hi2, hmem, hcase, hy, hrest⟩
  ·rw [show (Ci v).2 = v.2 from rfl] at hr
   rw [hr] at hroot
   unfold G6 at hroot
   repeat' (first | (with_reducible first | refine W ?_ | refine Z0 ?_ | ((first | refine Wo fun K hK => ?_ | refine Wp ?_ | refine Wq ?_ | refine Wr ?_); (try simp only [go_sem, fN, seval, eT, iR, x2, x4, x5, x6, x7, x8, x9, x10, s8, s11, t2, t4, t5, t6, t7, t15, dT, dF, nL]); (repeat refine Ai ?_); (try (refine hK _ ?_; clear hK K)); try refine iC ?_)) | refine Cg _ (hroot) ?_)
   rw [ho2] at hoff
   simp only [Option.map_some, List.append_nil] at hoff
   refine Ra (ES S0 (out ++ o2)) (A9 (hout o2) (by decide) hb1) (by
    have := hU
    rw [E2 (by decide) (by decide)] at this ⊢
    exact this) (fun i hi => ?_) ⟨out ++ o2, ?_, rfl⟩
   ·show AG (AG S1 11 _) 11 _ i = _
    rw [AH _ (by omega), AH _ (by omega)]
    exact hS i hi
   ·rw [List.map_append]
    exact IV ho hoff
  ·rw [show (Ci v).2 = v.2 from rfl] at hrest hcase hy
   rw [show (Ci v).1 = Bm v.1 from rfl] at hrest
   have hyz : y.size ≤ 2000 := by rw [← hy]; exact K6
   have hpz := OA hv y
   rw [List.length_drop] at hi2
   have hge : ¬ (i : Int) < 0 := by omega
   rcases hrest with ⟨hr, _, ho2⟩ | ⟨hr, ho2⟩
   ·rw [hr] at hroot
    unfold G6 at hroot
    by_cases hgr : (Bm v.1 y).size ≤ 2000
    ·have hgi : ¬ (2000 : Int) < (Bm v.1 y).size := by omega
     rw [if_pos hgr] at ho2
     repeat' (first | (with_reducible first | refine W ?_ | refine Z0 ?_ | ((first | refine Wo fun K hK => ?_ | refine Wp ?_ | refine Wq ?_ | refine Wr ?_); (try simp only [go_sem, fN, seval, eT, iR, x2, x4, x5, x6, x7, x8, x9, x10, s8, s11, t2, t4, t5, t6, t7, t15, hge, KP, dT, dF, nL]); (repeat refine Ai ?_); (try (refine hK _ ?_; clear hK K)); try refine iC ?_)) | refine Cg _ (hroot) ?_)
     rw [Gn]
     refine ⟨Hu _, _, _, (TJ v.1 y hsur).toS (PS _ _), ?_⟩
     have hl2 : ((out ++ o2).map Al).length = (out ++ o2).length := by simp
     have hat : ((out ++ o2).map Al ++ [[SV.str ⟨#[]⟩, SV.list []]])[out.length + o2.length]? = some [SV.str ⟨#[]⟩, SV.list []] := by
      rw [List.getElem?_append_right (by simp)]
      simp
     repeat' (first | (with_reducible first | refine W ?_ | refine Z0 ?_ | ((first | refine Wo fun K hK => ?_ | refine Wp ?_ | refine Wq ?_ | refine Wr ?_); (try simp only [go_sem, fN, seval, eT, iR, x2, x4, x5, x6, x7, x8, x9, x10, s8, s11, t2, t4, t5, t6, t7, t15, hge, hgi, hl2, hat, dT, dF, nL]); (repeat refine Ai ?_); (try (refine hK _ ?_; clear hK K)); try refine iC ?_)) | refine Cg _ (JE (Bm v.1 y) (by omega)) ?_ | refine Cg _ (IJ (Bm v.1 y) (by omega)) ?_)
     have hset : ((out ++ o2).map Al ++ [[SV.str ⟨#[]⟩, SV.list []]]).set (out.length + o2.length) [.str (Bm v.1 y).name, .list ((Bm v.1 y).args.map Al)] = (out ++ (o2 ++ [Bm v.1 y])).map Al := by
      rw [List.set_append_right _ _ (by simp)]
      simp [BI]
     rw [hset]
     refine AF ⟨R.length - (i + 1), by omega, i + 1, o2 ++ [Bm v.1 y], by omega, by simp only [List.length_append, List.length_singleton]; omega, rfl, ?_, ?_, ?_, ?_, ?_, ?_, ?_, ?_, ?_, ?_, rfl, KL (T := AG (ES S0 (out ++ (o2 ++ [Bm v.1 y]))) 1501 (some b1)) (by decide) (A9 (hout _) (by decide) hb1) fun j hj => ?_⟩
     ·rw [hoff, ho2, List.drop_drop, show f + (i + 1 - f) = i + 1 by omega, Option.map_map]
      congr 1
      funext l
      simp
     ·simp only [go_sem, fN, seval, AS.drop, Ac, AC.clears, AC.clear, AC.highs, AC.high, Bool.not_false, Bool.true_and, Bool.and_self, AV.purge, AV.purges, AC.purge, AL.purge, List.contains_cons, List.contains_nil, Nat.reduceBEq, Bool.or_self, Bool.or_false, Bool.false_or, Bool.or_true, eT, iR, x2]
     ·simp only [go_sem, fN, seval, AS.drop, Ac, AC.clears, AC.clear, AC.highs, AC.high, Bool.not_false, Bool.true_and, Bool.and_self, AV.purge, AV.purges, AC.purge, AL.purge, List.contains_cons, List.contains_nil, Nat.reduceBEq, Bool.or_self, Bool.or_false, Bool.false_or, Bool.or_true, eT, iR, x4]
     ·simp only [go_sem, fN, seval, AS.drop, Ac, AC.clears, AC.clear, AC.highs, AC.high, Bool.not_false, Bool.true_and, Bool.and_self, AV.purge, AV.purges, AC.purge, AL.purge, List.contains_cons, List.contains_nil, Nat.reduceBEq, Bool.or_self, Bool.or_false, Bool.false_or, Bool.or_true, eT, iR, x5]
     ·simp only [go_sem, fN, seval, AS.drop, Ac, AC.clears, AC.clear, AC.highs, AC.high, Bool.not_false, Bool.true_and, Bool.and_self, AV.purge, AV.purges, AC.purge, AL.purge, List.contains_cons, List.contains_nil, Nat.reduceBEq, Bool.or_self, Bool.or_false, Bool.false_or, Bool.or_true, eT, iR, x6]
     ·simp only [go_sem, fN, seval, AS.drop, Ac, AC.clears, AC.clear, AC.highs, AC.high, Bool.not_false, Bool.true_and, Bool.and_self, AV.purge, AV.purges, AC.purge, AL.purge, List.contains_cons, List.contains_nil, Nat.reduceBEq, Bool.or_self, Bool.or_false, Bool.false_or, Bool.or_true, eT, iR, x7]
     ·simp only [go_sem, fN, seval, AS.drop, Ac, AC.clears, AC.clear, AC.highs, AC.high, Bool.not_false, Bool.true_and, Bool.and_self, AV.purge, AV.purges, AC.purge, AL.purge, List.contains_cons, List.contains_nil, Nat.reduceBEq, Bool.or_self, Bool.or_false, Bool.false_or, Bool.or_true, eT, iR, x8]
     ·simp only [go_sem, fN, seval, AS.drop, Ac, AC.clears, AC.clear, AC.highs, AC.high, Bool.not_false, Bool.true_and, Bool.and_self, AV.purge, AV.purges, AC.purge, AL.purge, List.contains_cons, List.contains_nil, Nat.reduceBEq, Bool.or_self, Bool.or_false, Bool.false_or, Bool.or_true, eT, iR, x9]
     ·simp only [go_sem, fN, seval, AS.drop, Ac, AC.clears, AC.clear, AC.highs, AC.high, Bool.not_false, Bool.true_and, Bool.and_self, AV.purge, AV.purges, AC.purge, AL.purge, List.contains_cons, List.contains_nil, Nat.reduceBEq, Bool.or_self, Bool.or_false, Bool.false_or, Bool.or_true, eT, iR, x10]
      congr 3
     ·simp only [go_sem, fN, seval, AS.drop, Ac, AC.clears, AC.clear, AC.highs, AC.high, Bool.not_false, Bool.true_and, Bool.and_self, AV.purge, AV.purges, AC.purge, AL.purge, List.contains_cons, List.contains_nil, Nat.reduceBEq, Bool.or_self, Bool.or_false, Bool.false_or, Bool.or_true, eT, iR, s8]
     ·by_cases h1 : j = 1006
      ·subst h1
       show some _ = some _
       congr 4
       simp
       omega
      ·by_cases h2 : j = 1500
       ·subst h2
        rfl
       ·show AG (AG (AG (AG (AG (AG S1 11 _) 11 _) 11 _) 1500 _) 1500 _) 1006 _ j = _
        rw [AH _ h1, AH _ h2, AH _ h2, AH _ (by omega), AH _ (by omega), AH _ (by omega), hS j hj]
        by_cases h3 : j = 1501
        ·subst h3
         rw [AE, AE]
        ·rw [AH _ h3, AH _ h3, E2 h2 h1, E2 h2 h1]
    ·have hgi : (2000 : Int) < (Bm v.1 y).size := by omega
     rw [if_neg hgr] at ho2
     repeat' (first | (with_reducible first | refine W ?_ | refine Z0 ?_ | ((first | refine Wo fun K hK => ?_ | refine Wp ?_ | refine Wq ?_ | refine Wr ?_); (try simp only [go_sem, fN, seval, eT, iR, x2, x4, x5, x6, x7, x8, x9, x10, s8, s11, t2, t4, t5, t6, t7, t15, hge, KP, dT, dF, nL]); (repeat refine Ai ?_); (try (refine hK _ ?_; clear hK K)); try refine iC ?_)) | refine Cg _ (hroot) ?_)
     rw [Gn]
     refine ⟨Hu _, _, _, (TJ v.1 y hsur).toS (PS _ _), ?_⟩
     repeat' (first | (with_reducible first | refine W ?_ | refine Z0 ?_ | ((first | refine Wo fun K hK => ?_ | refine Wp ?_ | refine Wq ?_ | refine Wr ?_); (try simp only [go_sem, fN, seval, eT, iR, x2, x4, x5, x6, x7, x8, x9, x10, s8, s11, t2, t4, t5, t6, t7, t15, hge, hgi, dT, dF, nL]); (repeat refine Ai ?_); (try (refine hK _ ?_; clear hK K)); try refine iC ?_)) | refine Cg _ (JE (Bm v.1 y) (by omega)) ?_)
     rw [ho2, Option.map_none] at hoff
     rw [u501]
     refine Ly ?_ (by decide) (by simp only [go_sem, fN, seval, eT, iR, t1501]) ⟨rfl, hbad hoff, ?_, ?_⟩
     ·repeat (first | exact hhi | refine L6 ?_ (by decide) | refine Lk ?_ rfl)
     ·rw [M8 (by decide) (by decide)]
      simp only [go_sem, fN, seval, eT, iR]
     ·rw [M8 (by decide) (by decide)]
      simp only [go_sem, fN, seval, eT, iR]
   ·rw [hr] at hroot
    unfold G6 at hroot
    all_goals
     repeat' (first | (with_reducible first | refine W ?_ | refine Z0 ?_ | ((first | refine Wo fun K hK => ?_ | refine Wp ?_ | refine Wq ?_ | refine Wr ?_); (try simp only [go_sem, fN, seval, eT, iR, x2, x4, x5, x6, x7, x8, x9, x10, s8, s11, t2, t4, t5, t6, t7, t15, hge, dT, dF, nL]); (repeat refine Ai ?_); (try (refine hK _ ?_; clear hK K)); try refine iC ?_)) | refine Cg _ (hroot) ?_)
     rw [ho2, Option.map_none] at hoff
     rw [u501]
     refine Ly ?_ (by decide) (by simp only [go_sem, fN, seval, eT, iR, t1501]) ⟨rfl, hbad hoff, ?_, ?_⟩
     ·repeat (first | exact hhi | refine L6 ?_ (by decide) | refine Lk ?_ rfl)
     ·rw [M8 (by decide) (by decide)]
      simp only [go_sem, fN, seval, eT, iR]
     ·rw [M8 (by decide) (by decide)]
      simp only [go_sem, fN, seval, eT, iR]
 ·rintro U ⟨out, ho, rfl⟩
  rw [ho]
  have hdn : dnS (ES S0 out) = AG (AG S0 500 (some (.mrow 25 2 (out.map Al)))) 6 (some (.box 23 [.row 500 out.length])) := by
   show dnS (AG (AG (upS S0) (up1 500) _) (up1 6) _) = _
   rw [ML, ML, Ma]
   rfl
  rw [hdn]
  refine Wi ?_
  refine Wb ?_
  have hl : (out.map Al).length = out.length := by simp
  refine IWP.ghost (Aa.share (id := 500) (e := 25) (wd := 2) (xs := out.map Al) (by simp only [go_sem, fN, seval, eT, iR])) ?_
  unfold Ce
  repeat' with_reducible first | refine W ?_ | refine Z0 ?_ | ((first | refine Wo fun K hK => ?_ | refine Wp ?_ | refine Wq ?_ | refine Wr ?_); (try simp only [go_sem, fN, seval, eT, iR, e2, e4, e5, e6, e7, s4, s5, hl, dT, dF, nL]); (repeat refine Ai ?_); (try (refine hK _ ?_; clear hK K)); try refine iC ?_)
  simp only [go_sem, fN, seval, AK, AS.result, AB, AD, AI, e4, e5, s4, s5, hl]
 ·rintro ex U ⟨rfl, ho, u4, u5⟩
  rw [ho]
  have d4 : dnS U 4 = some (.box 23 [.full []]) := FV (i := 1004) (by decide) u4
  have d5 : dnS U 5 = some (Nm 8) := FV (i := 1005) (by decide) u5
  refine Wl ?_
  refine Wh ?_
  unfold Ce
  simp only [go_sem, fN, seval, AK, AS.result, AB, AD, AI, e4, e5, d4, d5]
  rfl

def Ht : IR :=
 (.seq (.ops [.i 2 (.box 25 (.t 0)), .i 4 (.alloc 25 [.st (.str (ByteArray.mk (#[]))), .full []]), .i 5 (.mov (.c (.one (.st (.bool false)))))]) (.seq (.seq (.ops [.m 6 1, .i 7 (.len false (.t 6)), .i 8 (.bin .eql (.t 7) (.n 0))]) (.cond (.t 8) (.seq (.ops [.L 9 2 2, .s 2 4 9, .i 5 (.mov (.c (.one (.st (.bool true)))))]) .ret) .skip)) (.seq (.seq (.ops [.m 10 1, .i 11 (.indexAddr 1 (.t 10) (.n 0)), .l 12 11, .i 13 (.bin .lss (.t 12) (.n 0)), .m 14 13, .mk (some 15) (some (14, false)) (.mov (.t 1)) .no, .mk (some 16) (some (14, false)) (.indexAddr 1 (.t 15) (.n 0)) .no, .mk (some 17) (some (14, false)) (.load false 1 (.t 16)) .no, .mk (some 18) (some (14, false)) (.fieldAddr 1 (.t 2)) .no, .mk (some 19) (some (14, false)) (.load false 1 (.t 18)) .no, .mk (some 20) (some (14, false)) (.len false (.t 19)) .no, .mk (some 21) (some (14, false)) (.bin .geq (.t 17) (.t 20)) .no, .i 22 (.pick (.t 14) (.c (.one (.st (.bool true)))) (.t 21))]) (.cond (.t 22) (.seq (.ops [.i 23 (.build [.st (.str (ByteArray.mk (#[]))), .full []] []), .s 2 4 23, .i 5 (.mov (.c (.one (.st (.bool false)))))]) .ret) .skip)) (.seq (.ops [.f 24 1 2, .l 25 24, .m 26 1, .i 27 (.indexAddr 1 (.t 26) (.n 0)), .l 28 27, .i 29 (.indexAddr 2 (.t 25) (.t 28)), .L 30 2 29, .m 31 1, .i 32 (.sliceL 1 (.t 31) (some (.n 1)) none), .i 33 (.call 45 [.t 30, .t 32]), .i 34 (.extract 0 (.t 33)), .i 35 (.extract 1 (.t 33)), .s 2 4 34, .m 5 35]) .ret))))
theorem Ls : OkF Tryz.prog 45 36 [] Ht [.cell 4 true 2, .t 5] := .of Tryz.func45 rfl rfl (by kernel_rfl) rfl
def Gb : IR :=
 (.seq (.ops [.i 3 (.box 25 (.t 0)), .i 5 (.box 25 (.t 2)), .i 6 (.alloc 25 [.st (.str (ByteArray.mk (#[]))), .full []])]) (.seq (.seq (.ops [.m 9 1, .i 10 (.len false (.t 9)), .i 11 (.bin .eql (.t 10) (.n 0))]) (.cond (.t 11) (.seq (.ops [.L 12 2 5, .s 2 6 12]) .ret) .skip)) (.seq (.ops [.f 13 0 3, .l 14 13, .i 15 (.build [.st (.str (ByteArray.mk (#[]))), .full []] [(0, 1, .t 14)]), .i 7 (.alloc 25 [.st (.str (ByteArray.mk (#[]))), .full []]), .s 2 7 15]) (.seq (.seq (.ops [.i 8 (.mov (.n 0))]) (.block 0 (.loop (.seq (.seq (.ops [.m 16 8, .f 17 1 3, .l 18 17, .i 19 (.len false (.t 18)), .i 20 (.bin .lss (.t 16) (.t 19))]) (.cond (.t 20) .skip (.exit 0))) (.seq (.block 1 (.seq (.ops [.m 23 8, .m 24 1, .i 25 (.indexAddr 1 (.t 24) (.n 0)), .l 26 25, .i 27 (.bin .eql (.t 23) (.t 26))]) (.cond (.t 27) (.ops [.f 28 1 7, .l 29 28, .f 30 1 3, .l 31 30, .m 32 8, .i 33 (.indexAddr 2 (.t 31) (.t 32)), .L 34 2 33, .m 35 1, .i 36 (.sliceL 1 (.t 35) (some (.n 1)) none), .L 37 2 5, .i 38 (.call 47 [.t 34, .t 36, .t 37]), .i 39 (.buildSlice false 25 2 [.t 38]), .i 40 (.append false 25 2 40 (.t 29) (.t 39)), .f 41 1 7, .s 1 41 40]) (.ops [.f 42 1 7, .l 43 42, .f 44 1 3, .l 45 44, .m 46 8, .i 47 (.indexAddr 2 (.t 45) (.t 46)), .L 48 2 47, .i 49 (.buildSlice false 25 2 [.t 48]), .i 50 (.append false 25 2 40 (.t 43) (.t 49)), .f 51 1 7, .s 1 51 50])))) (.ops [.m 21 8, .i 22 (.bin .add (.t 21) (.n 1)), .m 8 22])))))) (.seq (.ops [.L 52 2 7, .s 2 6 52]) .ret)))))
theorem JN : OkF Tryz.prog 47 53 [] Gb [.cell 6 true 2] := .of Tryz.func47 rfl rfl (by kernel_rfl) rfl
def GS : IR :=
 (.seq (.ops [.i 1 (.box 25 (.t 0)), .i 2 (.mov (.c (.one (.full []))))]) (.seq (.ops [.i 7 (.buildSlice false 39 1 [.c (.one (.full []))]), .m 3 7]) (.seq (.seq (.ops [.i 4 (.mov (.n 0))]) (.block 0 (.loop (.seq (.seq (.ops [.m 8 4, .f 9 1 1, .l 10 9, .i 11 (.len false (.t 10)), .i 12 (.bin .lss (.t 8) (.t 11))]) (.cond (.t 12) .skip (.exit 0))) (.seq (.block 1 (.seq (.ops [.f 15 1 1, .l 16 15, .m 17 4, .i 18 (.indexAddr 2 (.t 16) (.t 17)), .L 19 2 18, .i 20 (.call 44 [.t 19]), .m 5 20]) (.seq (.ops [.i 6 (.mov (.n 0))]) (.block 2 (.loop (.seq (.seq (.ops [.m 21 6, .m 22 5, .i 23 (.len false (.t 22)), .i 24 (.bin .lss (.t 21) (.t 23))]) (.cond (.t 24) .skip (.exit 2))) (.seq (.block 3 (.ops [.m 27 3, .m 28 4, .i 29 (.buildFlat [.t 28]), .m 30 5, .m 31 6, .i 32 (.indexAddr 1 (.t 30) (.t 31)), .l 33 32, .i 34 (.append false 3 1 8 (.t 29) (.t 33)), .i 35 (.buildSlice false 39 1 [.t 34]), .i 36 (.append false 39 1 24 (.t 27) (.t 35)), .m 3 36])) (.ops [.m 25 6, .i 26 (.bin .add (.t 25) (.n 1)), .m 6 26])))))))) (.ops [.m 13 4, .i 14 (.bin .add (.t 13) (.n 1)), .m 4 14])))))) (.seq (.ops [.m 37 3, .m 2 37]) .ret))))
theorem Ko : OkF Tryz.prog 44 38 [] GS [.t 2] := .of Tryz.func44 rfl rfl (by kernel_rfl) rfl

theorem O6 (p : List Int) : ∀ t : Tm, AN Tryz.prog 45 [aTm t, FQ p] (.tup [aTm ((t.atP p).getD Tm.nil), Ad (t.atP p).isSome]) := by
 induction p with
 | nil =>
  intro t
  rw [Tm.atP_nil]
  refine Ls.ac fun C hC => ?_
  unfold Ht
  repeat' with_reducible first | refine W ?_ | refine Z0 ?_ | ((first | refine Wo fun K hK => ?_ | refine Wp ?_ | refine Wq ?_ | refine Wr ?_); (try simp only [go_sem, fN, seval, eT, iR, dT, dF, nL]); (repeat refine Ai ?_); (try (refine hK _ ?_; clear hK K)); try refine iC ?_)
  simp only [go_sem, fN, seval, AK, AS.result, AB, AD, AI]
 | cons i p ih =>
  intro t
  rw [Tm.atP_cons]
  have htk : List.take p.length (List.map Kx p) = List.map Kx p := by rw [List.take_of_length_le (by simp)]
  have hl1 : ¬ ((p.length + 1 : Nat) : Int) = 0 := by omega
  refine Ls.ac fun C hC => ?_
  unfold Ht
  by_cases h0 : i < 0
  ·rw [if_pos h0]
   repeat' with_reducible first | refine W ?_ | refine Z0 ?_ | ((first | refine Wo fun K hK => ?_ | refine Wp ?_ | refine Wq ?_ | refine Wr ?_); (try simp only [go_sem, fN, seval, eT, iR, h0, hl1, dT, dF, nL]); (repeat refine Ai ?_); (try (refine hK _ ?_; clear hK K)); try refine iC ?_)
   simp only [go_sem, fN, seval, AK, AS.result, AB, AD, AI]
   rfl
  ·rw [if_neg h0]
   obtain ⟨k, rfl⟩ : ∃ k : Nat, i = k := ⟨i.toNat, by omega⟩
   rw [Int.toNat_natCast]
   by_cases h1 : (t.args.length : Int) ≤ k
   ·rw [List.getElem?_eq_none (by omega)]
    repeat' with_reducible first | refine W ?_ | refine Z0 ?_ | ((first | refine Wo fun K hK => ?_ | refine Wp ?_ | refine Wq ?_ | refine Wr ?_); (try simp only [go_sem, fN, seval, eT, iR, h0, h1, hl1, dT, dF, nL]); (repeat refine Ai ?_); (try (refine hK _ ?_; clear hK K)); try refine iC ?_)
    simp only [go_sem, fN, seval, AK, AS.result, AB, AD, AI]
    rfl
   ·obtain ⟨a, ha⟩ := Af (show k < t.args.length by omega)
    rw [ha]
    repeat' (first | (with_reducible first | refine W ?_ | refine Z0 ?_ | ((first | refine Wo fun K hK => ?_ | refine Wp ?_ | refine Wq ?_ | refine Wr ?_); (try simp only [go_sem, fN, seval, eT, iR, h0, h1, ha, hl1, htk, dT, dF, nL]); (repeat refine Ai ?_); (try (refine hK _ ?_; clear hK K)); try refine iC ?_)) | refine Cg _ (ih a) ?_)
    simp only [go_sem, fN, seval, AK, AS.result, AB, AD, AI]
theorem QW (p : List Int) : ∀ t : Tm, t.size ≤ 1000000 → ∀ x : Tm, (t.atP p).isSome = true → AN Tryz.prog 47 [aTm t, FQ p, aTm x] (aTm (t.putP p x)) := by
 induction p with
 | nil =>
  intro t hz x hat
  rw [Tm.putP_nil]
  refine JN.ac fun C hC => ?_
  unfold Gb
  repeat' with_reducible first | refine W ?_ | refine Z0 ?_ | ((first | refine Wo fun K hK => ?_ | refine Wp ?_ | refine Wq ?_ | refine Wr ?_); (try simp only [go_sem, fN, seval, eT, iR, dT, dF, nL]); (repeat refine Ai ?_); (try (refine hK _ ?_; clear hK K)); try refine iC ?_)
  simp only [go_sem, fN, seval, AK, AS.result, AB, AD, AI]
 | cons i p ih =>
  intro t hz x hat
  have hs := Tm.size_eq t
  have hkn := Tm.length_le t.args
  rw [Tm.atP_cons] at hat
  have h0 : ¬ i < 0 := fun h => by rw [if_pos h] at hat; cases hat
  rw [if_neg h0] at hat
  obtain ⟨j, rfl⟩ : ∃ k : Nat, i = k := ⟨i.toNat, by omega⟩
  rw [Int.toNat_natCast] at hat
  obtain ⟨b, hb⟩ : ∃ b, t.args[j]? = some b := by
   cases h : t.args[j]? with
   | none => rw [h] at hat; cases hat
   | some b => exact ⟨b, rfl⟩
  rw [hb] at hat
  dsimp only at hat
  have hjl := Bn hb
  rw [Tm.putP_at hb]
  have htk : List.take p.length (List.map Kx p) = List.map Kx p := by rw [List.take_of_length_le (by simp)]
  have hl1 : ¬ ((p.length + 1 : Nat) : Int) = 0 := by omega
  refine JN.ac fun C hC => ?_
  unfold Gb
  repeat' with_reducible first | refine W ?_ | refine Z0 ?_ | ((first | refine Wo fun K hK => ?_ | refine Wp ?_ | refine Wq ?_ | refine Wr ?_); (try simp only [go_sem, fN, seval, eT, iR, hl1, dT, dF, nL]); (repeat refine Ai ?_); (try (refine hK _ ?_; clear hK K)); try refine iC ?_)
  refine IWP.ghost (Aa.ownC 7 1 60 25 2 (xs := ([] : List Tm).map Al) rfl rfl rfl C3) ?_
  refine IWP.loop (fun m s => ∃ k, k ≤ t.args.length ∧ m = t.args.length - k ∧ s.env 1 = FQ ((j : Int) :: p) ∧ s.env 3 = .one (.ptr 3 1 0 0) ∧ s.env 5 = .one (.ptr 5 1 0 0) ∧ s.env 6 = .one (.ptr 6 1 0 0) ∧ s.env 7 = .one (.ptr 7 1 0 0) ∧ s.S 3 = some (.box 25 [.st (.str t.name), .st (.list (t.args.map Al))]) ∧ s.S 5 = some (.box 25 [.st (.str x.name), .st (.list (x.args.map Al))]) ∧ s.S 6 = some (.box 25 [.st (.str ⟨#[]⟩), .full []]) ∧ s.S 7 = some (.box 25 [.st (.str t.name), .row 60 k]) ∧ s.S 60 = some (.arow 25 2 (((t.args.set j (b.putP p x)).take k).map Al)) ∧ s.env 8 = AO k)
   t.args.length ⟨0, Nat.zero_le _, rfl, rfl, rfl, rfl, rfl, rfl, rfl, rfl, rfl, rfl, rfl, rfl⟩ ?_
  rintro m ⟨env, S⟩ ⟨k, hk, rfl, e1, e3, e5, e6, e7, s3, s5, s6, s7, s60, e8⟩
  simp only at e1 e3 e5 e6 e7 s3 s5 s6 s7 s60 e8
  have hlk : ((t.args.set j (b.putP p x)).take k).length = k := by rw [List.length_take, List.length_set]; omega
  by_cases hlt : (k : Int) < t.args.length
  ·obtain ⟨a, ha⟩ := Af (show k < t.args.length by omega)
   by_cases hkj : (k : Int) = j
   ·have hkj' : k = j := by omega
    subst hkj'
    have hset : (t.args.set k (b.putP p x))[k]? = some (b.putP p x) := by rw [List.getElem?_set_self hjl]
    repeat' (first | (with_reducible first | refine W ?_ | refine Z0 ?_ | ((first | refine Wo fun K hK => ?_ | refine Wp ?_ | refine Wq ?_ | refine Wr ?_); (try simp only [go_sem, fN, seval, eT, iR, e1, e3, e5, e6, e7, s3, s5, s6, s7, s60, e8, hlt, hb, htk, hlk, dT, dF, nL]); (repeat refine Ai ?_); (try (refine hK _ ?_; clear hK K)); try refine iC ?_)) | refine Cg _ (ih b (by have := Tm.size_mem (AP hb); omega) x hat) ?_)
    refine AF ⟨t.args.length - (k + 1), by omega, k + 1, by omega, rfl, ?_⟩
    simp only [go_sem, fN, seval, eT, iR, e1, e3, e5, e6, e7, s3, s5, s6, s7, s60, e8]
    exact ⟨by rw [Ak hset]; simp [BI], by congr 3⟩
   ·have hkj' : j ≠ k := by omega
    have hset : (t.args.set j (b.putP p x))[k]? = some a := by rw [List.getElem?_set_ne hkj', ha]
    repeat' with_reducible first | refine W ?_ | refine Z0 ?_ | ((first | refine Wo fun K hK => ?_ | refine Wp ?_ | refine Wq ?_ | refine Wr ?_); (try simp only [go_sem, fN, seval, eT, iR, e1, e3, e5, e6, e7, s3, s5, s6, s7, s60, e8, hlt, hkj, ha, hlk, dT, dF, nL]); (repeat refine Ai ?_); (try (refine hK _ ?_; clear hK K)); try refine iC ?_)
    refine AF ⟨t.args.length - (k + 1), by omega, k + 1, by omega, rfl, ?_⟩
    simp only [go_sem, fN, seval, eT, iR, e1, e3, e5, e6, e7, s3, s5, s6, s7, s60, e8]
    exact ⟨by rw [Ak hset]; simp [BI], by congr 3⟩
  ·have hall : (t.args.set j (b.putP p x)).take k = t.args.set j (b.putP p x) := List.take_of_length_le (by rw [List.length_set]; omega)
   rw [hall] at hlk s60
   repeat' with_reducible first | refine W ?_ | refine Z0 ?_ | ((first | refine Wo fun K hK => ?_ | refine Wp ?_ | refine Wq ?_ | refine Wr ?_); (try simp only [go_sem, fN, seval, eT, iR, e1, e3, e5, e6, e7, s3, s5, s6, s7, s60, e8, hlt, hlk, dT, dF, nL]); (repeat refine Ai ?_); (try (refine hK _ ?_; clear hK K)); try refine iC ?_)
   simp only [go_sem, fN, seval, AK, AS.result, AB, AD, AI, e6, s60, hlk]
   rfl
theorem LB (t : Tm) (hz : t.size ≤ 1000000) : AN Tryz.prog 44 [aTm t] (Qp t.places) := by
 induction h : SizeOf.sizeOf t using Nat.strongRecOn generalizing t with
 | _ N ih =>
 subst h
 have hs := Tm.size_eq t
 have hkn := Tm.length_le t.args
 refine Ko.ac fun C hC => ?_
 unfold GS
 repeat' with_reducible first | refine W ?_ | refine Z0 ?_ | ((first | refine Wo fun K hK => ?_ | refine Wp ?_ | refine Wq ?_ | refine Wr ?_); (try simp only [go_sem, fN, seval, eT, iR, dT, dF, nL]); (repeat refine Ai ?_); (try (refine hK _ ?_; clear hK K)); try refine iC ?_)
 refine IWP.ghost (Aa.own 3 60 39 1 (xs := ([[]] : List (List Int)).map QR) (by simp only [go_sem, fN, seval, eT, iR]; rfl) rfl (by simp) (by omega)) ?_
 refine IWP.loop (fun m s => ∃ k, k ≤ t.args.length ∧ m = t.args.length - k ∧ s.env 1 = .one (.ptr 1 1 0 0) ∧ s.S 1 = some (.box 25 [.st (.str t.name), .st (.list (t.args.map Al))]) ∧ s.env 3 = .one (.row 60 (t.placesTo k).length) ∧ s.S 60 = some (.arow 39 1 ((t.placesTo k).map QR)) ∧ s.env 4 = AO k ∧ s.S 34 = none)
  t.args.length ⟨0, Nat.zero_le _, rfl, rfl, rfl, rfl, rfl, rfl, rfl⟩ ?_
 rintro m ⟨env, S⟩ ⟨k, hk, rfl, e1, s1, e3, s60, e4, s34⟩
 simp only at e1 s1 e3 s60 e4 s34
 by_cases hlt : (k : Int) < t.args.length
 ·obtain ⟨a, ha⟩ := Af (show k < t.args.length by omega)
  have hsz := Tm.size_mem (AP ha)
  have hpl := Tm.places_length a
  have hto := Tm.placesTo_length t k
  have hst := Tm.sizes_take ha
  have hst2 := Tm.sizes_take_le t.args (k + 1)
  repeat' (first | (with_reducible first | refine W ?_ | refine Z0 ?_ | ((first | refine Wo fun K hK => ?_ | refine Wp ?_ | refine Wq ?_ | refine Wr ?_); (try simp only [go_sem, fN, seval, eT, iR, e1, s1, e3, s60, e4, hlt, ha, dT, dF, nL]); (repeat refine Ai ?_); (try (refine hK _ ?_; clear hK K)); try refine iC ?_)) | refine Cg _ (ih _ (Tm.lt_of_arg (AP ha)) a (by omega) rfl) ?_)
  refine IWP.loopD [34] (fun m s => ∃ i, i ≤ a.places.length ∧ m = a.places.length - i ∧ s.env 1 = .one (.ptr 1 1 0 0) ∧ s.S 1 = some (.box 25 [.st (.str t.name), .st (.list (t.args.map Al))]) ∧ s.env 3 = .one (.row 60 (t.placesTo k ++ (a.places.take i).map fun p => (k : Int) :: p).length) ∧ s.S 60 = some (.arow 39 1 ((t.placesTo k ++ (a.places.take i).map fun p => (k : Int) :: p).map QR)) ∧ s.env 4 = AO k ∧ s.env 5 = Qp a.places ∧ s.env 6 = AO i ∧ s.S 34 = none)
   a.places.length ⟨0, Nat.zero_le _, rfl, ?_⟩ ?_
  ·simp only [go_sem, fN, seval, eT, iR, e1, s1, e3, s60, e4, s34]
  rintro m ⟨env, S⟩ ⟨i, hi, rfl, e1, s1, e3, s60, e4, e5, e6, s34⟩
  simp only at e1 s1 e3 s60 e4 e5 e6 s34
  have hlen : (t.placesTo k ++ (a.places.take i).map fun p => (k : Int) :: p).length ≤ 1000000 := by
   rw [List.length_append, List.length_map, List.length_take]
   omega
  by_cases hli : (i : Int) < a.places.length
  ·obtain ⟨p, hp⟩ := Af (show i < a.places.length by omega)
   have hd := Tm.places_deep a p (AP hp)
   repeat' with_reducible first | refine W ?_ | refine Z0 ?_ | ((first | refine Wo fun K hK => ?_ | refine Wp ?_ | refine Wq ?_ | refine Wr ?_); (try simp only [go_sem, fN, seval, eT, iR, e1, s1, e3, s60, e4, e5, e6, s34, hli, hp, dT, dF, nL]); (repeat refine Ai ?_); (try (refine hK _ ?_; clear hK K)); try refine iC ?_)
   refine AF ⟨a.places.length - (i + 1), by omega, i + 1, by omega, rfl, ?_⟩
   simp only [go_sem, fN, seval, AS.drop, Ac, AC.clears, AC.clear, AC.highs, AC.high, Bool.not_false, Bool.true_and, Bool.and_self, AV.purge, AV.purges, AC.purge, AL.purge, List.contains_cons, List.contains_nil, Nat.reduceBEq, Bool.or_self, Bool.or_false, Bool.false_or, Bool.or_true, eT, iR, e1, s1, e3, s60, e4, e5, e6, s34]
   rw [Ak hp]
   refine ⟨?_, ?_, rfl⟩
   ·simp
    omega
   ·simp
  ·repeat' with_reducible first | refine W ?_ | refine Z0 ?_ | ((first | refine Wo fun K hK => ?_ | refine Wp ?_ | refine Wq ?_ | refine Wr ?_); (try simp only [go_sem, fN, seval, eT, iR, e1, s1, e3, s60, e4, e5, e6, s34, hli, dT, dF, nL]); (repeat refine Ai ?_); (try (refine hK _ ?_; clear hK K)); try refine iC ?_)
   refine AF ⟨t.args.length - (k + 1), by omega, k + 1, by omega, rfl, ?_⟩
   have e9 : (t.placesTo k ++ (a.places.take i).map fun p => (k : Int) :: p) = t.placesTo (k + 1) := by
    rw [List.take_of_length_le (by omega), Tm.placesTo_succ ha]
   rw [e9] at e3 s60
   exact ⟨e1, s1, e3, s60, rfl, s34⟩
 ·repeat' with_reducible first | refine W ?_ | refine Z0 ?_ | ((first | refine Wo fun K hK => ?_ | refine Wp ?_ | refine Wq ?_ | refine Wr ?_); (try simp only [go_sem, fN, seval, eT, iR, e1, s1, e3, s60, e4, hlt, dT, dF, nL]); (repeat refine Ai ?_); (try (refine hK _ ?_; clear hK K)); try refine iC ?_)
  simp only [go_sem, fN, seval, AK, AS.result, AB, AD, AI, e3, s60]
  rw [Tm.placesTo_all (by omega)]

abbrev Hc (l : List Bd) : AL := .arow 138 3 (l.map CS)
def mtV (i : Nat) (p t : Tm) (l : List Bd) : AV := if (A0 p.name || (p.mt t l).2) = true then .one (.row i (p.mt t l).1.length) else .one (.full [])
theorem MP {i : Nat} {p t : Tm} {l : List Bd} (h : (p.mt t l).2 = true) : mtV i p t l = .one (.row i (p.mt t l).1.length) := by unfold mtV; rw [h, Bool.or_true, if_pos rfl]
theorem P8 {i : Nat} {p t : Tm} {l : List Bd} (h : A0 p.name = true) : mtV i p t l = .one (.row i (p.mt t l).1.length) := by unfold mtV; rw [h, Bool.true_or, if_pos rfl]
theorem Oz {i : Nat} {p t : Tm} {l : List Bd} (hv : A0 p.name = false) (h : (p.mt t l).2 = false) : mtV i p t l = .one (.full []) := by unfold mtV; rw [h, hv]; rfl
theorem G8 (p : Tm) (hz : p.size ≤ 1000000)
  (ih : ∀ a ∈ p.args, ∀ (t : Tm) (i : Nat) (l : List Bd) (S : AA), 1000 ≤ i → l.length + a.size ≤ 2000000 → S i = some (Hc l) →
   As Tryz.prog 100 [aTm a, aTm t, .one (.row i l.length)] S (.tup [mtV i a t l, Ad (a.mt t l).2]) (AG S i (some (Hc (a.mt t l).1))))
  (C : Ctx) (hC : C.n = 75) (t : Tm) (i : Nat) (hi : 100 < i) (l : List Bd) (hl : l.length + p.size ≤ 2000000) (S : AA) (hS : ∀ j, j < 100 → S j = none) (si : S i = some (Hc l)) (env : Nat → AV) (e0 : env 0 = aTm p) (e1 : env 1 = aTm t) (e2 : env 2 = .one (.row i l.length))
  (Q : AX → AS → Prop) (hQ : ∀ env' S', env' 6 = mtV i p t l → env' 7 = Ad (p.mt t l).2 → S' i = some (Hc (p.mt t l).1) → (∀ j, 100 ≤ j → j ≠ i → S' j = S j) → Q .ret ⟨env', S'⟩) :
  IWP Tryz.prog C [68] Em Q ⟨env, S⟩ := by
 have hs := Tm.size_eq p
 have hln := Tm.length_le p.args
 have n3 : S 3 = none := hS 3 (by omega)
 have n4 : S 4 = none := hS 4 (by omega)
 have n8 : S 8 = none := hS 8 (by omega)
 have d3 : ¬ 3 = i := by omega
 have d4 : ¬ 4 = i := by omega
 have d8 : ¬ 8 = i := by omega
 have f3 : ¬ i = 3 := by omega
 have f4 : ¬ i = 4 := by omega
 have f8 : ¬ i = 8 := by omega
 unfold Em
 repeat' with_reducible first | refine W ?_ | refine Z0 ?_ | ((first | refine Wo fun K hK => ?_ | refine Wp ?_ | refine Wq ?_ | refine Wr ?_); (try simp only [go_sem, fN, seval, eT, iR, n3, n4, e0, e1, e2, dT, dF, nL]); (repeat refine Ai ?_); (try (refine hK _ ?_; clear hK K)); try refine iC ?_)
 refine ⟨_, E4 _, ?_⟩
 cases hv : A0 p.name with
 | true =>
  repeat' with_reducible first | refine W ?_ | refine Z0 ?_ | ((first | refine Wo fun K hK => ?_ | refine Wp ?_ | refine Wq ?_ | refine Wr ?_); (try simp only [go_sem, fN, seval, eT, iR, hv, n3, n4, n8, d3, d4, d8, f3, f4, f8, e0, e1, e2, si, dT, dF, nL]); (repeat refine Ai ?_); (try (refine hK _ ?_; clear hK K)); try refine iC ?_)
  refine ⟨_, OC l p.name, ?_⟩
  cases hlk : lookup l p.name with
  | some x =>
   repeat' (first | (with_reducible first | refine W ?_ | refine Z0 ?_ | ((first | refine Wo fun K hK => ?_ | refine Wp ?_ | refine Wq ?_ | refine Wr ?_); (try simp only [go_sem, fN, seval, eT, iR, hlk, n3, n4, n8, d3, d4, d8, f3, f4, f8, e0, e1, e2, si, Option.getD_some, Option.isSome_some, dT, dF, nL]); (repeat refine Ai ?_); (try (refine hK _ ?_; clear hK K)); try refine iC ?_)) | refine Cg _ (JC _ _) ?_)
   have hm := Tm.mt_old (t := t) hv hlk
   refine hQ _ _ ?_ ?_ ?_ fun j hj hne => ?_
   ·rw [P8 hv, hm]
    simp only [go_sem, fN, seval, eT, iR]
   ·rw [hm]
    simp only [go_sem, fN, seval, eT, iR]
   ·rw [hm]
    simp only [go_sem, fN, seval, eT, iR, f3, f4, f8, si]
   ·have j3 : ¬ j = 3 := by omega
    have j4 : ¬ j = 4 := by omega
    have j8 : ¬ j = 8 := by omega
    simp only [go_sem, fN, seval, eT, iR, j3, j4, j8]
  | none =>
   repeat' with_reducible first | refine W ?_ | refine Z0 ?_ | ((first | refine Wo fun K hK => ?_ | refine Wp ?_ | refine Wq ?_ | refine Wr ?_); (try simp only [go_sem, fN, seval, eT, iR, hlk, n3, n4, n8, d3, d4, d8, f3, f4, f8, e0, e1, e2, si, Option.getD_none, Option.isSome_none, CS, dT, dF, nL]); (repeat refine Ai ?_); (try (refine hK _ ?_; clear hK K)); try refine iC ?_)
   have hm := Tm.mt_new (t := t) hv hlk
   refine hQ _ _ ?_ ?_ ?_ fun j hj hne => ?_
   ·rw [P8 hv, hm, List.length_append]
    simp only [go_sem, fN, seval, eT, iR]
   ·rw [hm]
    simp only [go_sem, fN, seval, eT, iR]
   ·rw [hm]
    simp only [go_sem, fN, seval, eT, iR, f3, f4, f8, si]
    rw [Hc, List.map_append]
    rfl
   ·have j3 : ¬ j = 3 := by omega
    have j4 : ¬ j = 4 := by omega
    have j8 : ¬ j = 8 := by omega
    simp only [go_sem, fN, seval, eT, iR, j3, j4, j8, hne]
 | false =>
  by_cases hn : p.name = t.name
  case neg =>
   have hc : ¬ (p.name = t.name ∧ p.args.length = t.args.length) := fun h => hn h.1
   have hm := Tm.mt_clash (l := l) hv hc
   repeat' with_reducible first | refine W ?_ | refine Z0 ?_ | ((first | refine Wo fun K hK => ?_ | refine Wp ?_ | refine Wq ?_ | refine Wr ?_); (try simp only [go_sem, fN, seval, eT, iR, hv, n3, n4, n8, d3, d4, d8, f3, f4, f8, e0, e1, e2, si, hn, dT, dF, nL]); (repeat refine Ai ?_); (try (refine hK _ ?_; clear hK K)); try refine iC ?_)
   refine hQ _ _ ?_ ?_ ?_ fun j hj hne => ?_
   ·rw [Oz hv (by rw [hm])]
    simp only [go_sem, fN, seval, eT, iR]
   ·rw [hm]
    simp only [go_sem, fN, seval, eT, iR]
   ·rw [hm]
    simp only [go_sem, fN, seval, eT, iR, f3, f4, si]
   ·have j3 : ¬ j = 3 := by omega
    have j4 : ¬ j = 4 := by omega
    simp only [go_sem, fN, seval, eT, iR, j3, j4]
  by_cases hlen : p.args.length = t.args.length
  case neg =>
   have hc : ¬ (p.name = t.name ∧ p.args.length = t.args.length) := fun h => hlen h.2
   have hlen' : ¬ (p.args.length : Int) = t.args.length := by omega
   have hm := Tm.mt_clash (l := l) hv hc
   repeat' with_reducible first | refine W ?_ | refine Z0 ?_ | ((first | refine Wo fun K hK => ?_ | refine Wp ?_ | refine Wq ?_ | refine Wr ?_); (try simp only [go_sem, fN, seval, eT, iR, hv, n3, n4, n8, d3, d4, d8, f3, f4, f8, e0, e1, e2, si, hn, hlen', dT, dF, nL]); (repeat refine Ai ?_); (try (refine hK _ ?_; clear hK K)); try refine iC ?_)
   refine hQ _ _ ?_ ?_ ?_ fun j hj hne => ?_
   ·rw [Oz hv (by rw [hm])]
    simp only [go_sem, fN, seval, eT, iR]
   ·rw [hm]
    simp only [go_sem, fN, seval, eT, iR]
   ·rw [hm]
    simp only [go_sem, fN, seval, eT, iR, f3, f4, si]
   ·have j3 : ¬ j = 3 := by omega
    have j4 : ¬ j = 4 := by omega
    simp only [go_sem, fN, seval, eT, iR, j3, j4]
  have hlen' : (p.args.length : Int) = t.args.length := by omega
  have hknot : p.mt t l = Tm.mtL p.args t.args l := Tm.mt_knot hv hn hlen
  repeat' with_reducible first | refine W ?_ | refine Z0 ?_ | ((first | refine Wo fun K hK => ?_ | refine Wp ?_ | refine Wq ?_ | refine Wr ?_); (try simp only [go_sem, fN, seval, eT, iR, hv, n3, n4, n8, d3, d4, d8, f3, f4, f8, e0, e1, e2, si, hn, hlen', dT, dF, nL]); (repeat refine Ai ?_); (try (refine hK _ ?_; clear hK K)); try refine iC ?_)
  refine IWP.loop (fun m x => ∃ k, k ≤ p.args.length ∧ m = p.args.length - k ∧ (Tm.mtL (p.args.take k) (t.args.take k) l).2 = true ∧ x.env 2 = .one (.row i (Tm.mtL (p.args.take k) (t.args.take k) l).1.length) ∧ x.env 3 = .one (.ptr 3 1 0 0) ∧ x.env 4 = .one (.ptr 4 1 0 0) ∧ x.env 10 = AO k ∧
    x.S 3 = some (.box 25 [.st (.str t.name), .st (.list (p.args.map Al))]) ∧ x.S 4 = some (.box 25 [.st (.str t.name), .st (.list (t.args.map Al))]) ∧ x.S i = some (Hc (Tm.mtL (p.args.take k) (t.args.take k) l).1) ∧ ∀ j, 100 ≤ j → j ≠ i → x.S j = S j)
   p.args.length ⟨0, Nat.zero_le _, rfl, by simp [Tm.mtL], by (simp only [go_sem, fN, seval, eT, iR, e2]); simp [Tm.mtL], rfl, rfl, rfl, by simp only [go_sem, fN, seval, eT, iR, hn], rfl, by (simp only [go_sem, fN, seval, eT, iR, f3, f4, si]); simp [Tm.mtL], fun j hj hne => ?_⟩ ?_
  ·have j3 : ¬ j = 3 := by omega
   have j4 : ¬ j = 4 := by omega
   simp only [go_sem, fN, seval, eT, iR, j3, j4]
  rintro m ⟨env, S1⟩ ⟨k, hk, rfl, hok, e2, e3', e4', e10, s3, s4, si, hrest⟩
  simp only at e2 e3' e4' e10 s3 s4 si hrest
  by_cases hlt : (k : Int) < p.args.length
  ·obtain ⟨a, ha⟩ := Af (show k < p.args.length by omega)
   obtain ⟨c, hc⟩ := Af (show k < t.args.length by omega)
   have hstep := Tm.mtL_take hlen ha hc hok
   have hb1 := (Tm.mtL_ok (p.args.take k) (t.args.take k) l).len
   have z1 := Tm.sizes_take ha
   have z2 := Tm.sizes_take_le p.args (k + 1)
   repeat' with_reducible first | refine W ?_ | refine Z0 ?_ | ((first | refine Wo fun K hK => ?_ | refine Wp ?_ | refine Wq ?_ | refine Wr ?_); (try simp only [go_sem, fN, seval, eT, iR, e2, e3', e4', e10, s3, s4, si, hlt, ha, hc, dT, dF, nL]); (repeat refine Ai ?_); (try (refine hK _ ?_; clear hK K)); try refine iC ?_)
   have hcall := ih a (AP ha) c (up1 i) (Tm.mtL (p.args.take k) (t.args.take k) l).1 (upS S1) (BL i) (by omega) (by rw [Bv, si]; rfl)
   rw [← hstep] at hcall
   cases hb : (Tm.mtL (p.args.take (k + 1)) (t.args.take (k + 1)) l).2 with
   | true =>
    rw [MP (by rw [← hstep]; exact hb), ← hstep, hb] at hcall
    refine ⟨_, _, hcall, ?_⟩
    repeat' with_reducible first | refine W ?_ | refine Z0 ?_ | ((first | refine Wo fun K hK => ?_ | refine Wp ?_ | refine Wq ?_ | refine Wr ?_); (try simp only [go_sem, fN, seval, eT, iR, e2, e3', e4', e10, s3, s4, d3, d4, dT, dF, nL]); (repeat refine Ai ?_); (try (refine hK _ ?_; clear hK K)); try refine iC ?_)
    refine AF ⟨p.args.length - (k + 1), by omega, k + 1, by omega, rfl, hb, ?_⟩
    simp only [go_sem, fN, seval, eT, iR, e2, e3', e4', e10, s3, s4, d3, d4]
    refine ⟨by congr 3, fun j hj hne => ?_⟩
    simp only [go_sem, fN, seval, eT, iR, hne]
    exact hrest j hj hne
   | false =>
    have hno := Tm.mtL_no hlen hb
    rw [hb] at hcall
    refine ⟨_, _, hcall, ?_⟩
    repeat' with_reducible first | refine W ?_ | refine Z0 ?_ | ((first | refine Wo fun K hK => ?_ | refine Wp ?_ | refine Wq ?_ | refine Wr ?_); (try simp only [go_sem, fN, seval, eT, iR, hb, e2, e3', e4', e10, s3, s4, dT, dF, nL]); (repeat refine Ai ?_); (try (refine hK _ ?_; clear hK K)); try refine iC ?_)
    refine hQ _ _ ?_ ?_ ?_ fun j hj hne => ?_
    ·rw [Oz hv (by rw [hknot, hno])]
     simp only [go_sem, fN, seval, eT, iR]
    ·rw [hknot, hno]
     simp only [go_sem, fN, seval, eT, iR]
    ·rw [hknot, hno]
     simp only [go_sem, fN, seval, eT, iR]
    ·simp only [go_sem, fN, seval, eT, iR, hne]
     exact hrest j hj hne
  ·rw [List.take_of_length_le (by omega), List.take_of_length_le (by omega)] at hok si e2
   rw [← hlen'] at *
   repeat' with_reducible first | refine W ?_ | refine Z0 ?_ | ((first | refine Wo fun K hK => ?_ | refine Wp ?_ | refine Wq ?_ | refine Wr ?_); (try simp only [go_sem, fN, seval, eT, iR, e2, e3', e10, s3, hlt, dT, dF, nL]); (repeat refine Ai ?_); (try (refine hK _ ?_; clear hK K)); try refine iC ?_)
   refine hQ _ _ ?_ ?_ ?_ hrest
   ·rw [MP (by rw [hknot]; exact hok), hknot]
    simp only [go_sem, fN, seval, eT, iR, e2]
   ·rw [hknot, hok]
    simp only [go_sem, fN, seval, eT, iR]
   ·rw [hknot]
    exact si
theorem TQ {S S1 : AA} {a0 : Nat} {b : AL} (hS : Ar S) (ha : 1000 ≤ a0) (h1 : S1 a0 = some b) (h2 : ∀ i, 100 ≤ i → i ≠ a0 → S1 i = S i) : Bl S1 = AG S a0 (some b) := QV hS ha h1 fun i hi hne => h2 i (by omega) hne
theorem NF (p : Tm) (hz : p.size ≤ 1000000) : ∀ (t : Tm) (i : Nat) (l : List Bd) (S : AA), 1000 ≤ i → l.length + p.size ≤ 2000000 → S i = some (Hc l) →
   As Tryz.prog 100 [aTm p, aTm t, .one (.row i l.length)] S (.tup [mtV i p t l, Ad (p.mt t l).2]) (AG S i (some (Hc (p.mt t l).1))) := by
 induction h : SizeOf.sizeOf p using Nat.strongRecOn generalizing p with
 | _ N ih =>
 subst h
 have hs := Tm.size_eq p
 intro t i l S hi hl hSi
 refine G_.acS fun hS C hC => ?_
 refine G8 p hz (fun a ha => ih _ (Tm.lt_of_arg ha) a (by have := Tm.size_mem ha; omega) rfl) C hC t i (by omega) l hl S (fun j hj => Aj hS (by omega)) hSi _ rfl rfl rfl _ ?_
 intro env' S' h6 h7 si hrest
 refine MD trivial (by simp only [AB, AD, AI, h6, h7, Option.map_some]) ?_ (No hS rfl si fun k hk hne => hrest k (by omega) hne) (TQ hS hi si hrest) (A9 hS hi rfl)
 unfold mtV
 split
 ·exact Bool.and_eq_true_iff.2 ⟨G0 (n := (p.mt t l).1.length) hi, rfl⟩
 ·rfl
theorem N6 (p t : Tm) (hz : p.size ≤ 1000000) (a0 : Nat) (S : AA) (ha : 1000 ≤ a0) (hSa : S a0 = none) :
   As Tryz.prog 100 [aTm p, aTm t, .one (.full [])] S (.tup [mtV a0 p t [], Ad (p.mt t []).2]) (AG S a0 (some (Hc (p.mt t []).1))) := by
 refine G_.acS fun hS C hC => ?_
 refine IWP.ghost (Aa.own 2 900 138 3 (xs := ([] : List Bd).map CS) rfl (Aj hS (by omega)) LR (by omega)) ?_
 refine G8 p hz (fun a ha => NF a (by have := Tm.size_mem ha; have := Tm.size_eq p; omega)) C hC t 900 (by omega) [] (by simp; omega) _ (fun j hj => by
  show AG S 900 _ j = none
  rw [AH _ (by omega)]
  exact Aj hS (by omega)) (AE _ _ _) _ rfl rfl rfl _ ?_
 intro env' S' h6 h7 si hrest
 have hrest' : ∀ j, 1000 ≤ j → S' j = S j := fun j hj => by
  rw [hrest j (by omega) (by omega)]
  exact AH _ (by omega) _
 have e : (AV.tup [mtV a0 p t [], Ad (p.mt t []).2]) = (AV.tup [mtV 900 p t [], Ad (p.mt t []).2]).ren (BS 900 a0) := by
  unfold mtV
  split
  ·simp only [AV.ren, AV.rens, AC.ren, O5]
  ·simp only [AV.ren, AV.rens, AC.ren]
 rw [e]
 refine Lu trivial 900 a0 _ (by omega) ha (by show S' a0 = none; rw [hrest' a0 ha, hSa]) si rfl (fun j b hj hb => (hS j b (by rw [← hrest' j hj]; exact hb)).2) (by simp only [AB, AD, AI, h6, h7, Option.map_some]) ?_ ?_ (A9 hS ha rfl)
 ·rw [← e]
  unfold mtV
  split
  ·exact Bool.and_eq_true_iff.2 ⟨G0 (n := (p.mt t []).1.length) ha, rfl⟩
  ·rfl
 ·congr 1
  funext j
  show (if j < 1000 then none else S' j) = S j
  by_cases hj : j < 1000
  ·rw [if_pos hj, Aj hS hj]
  ·rw [if_neg hj, hrest' j (by omega)]
theorem F7 (p t : Tm) (hp : p.size ≤ 100000) (ht : t.size ≤ 1000000) : AN Tryz.prog 72 [aTm p, aTm t] (.tup [Ft (A4 p t), Ad (Bc p t)]) := by
 have hnm := J9 p t
 have hml := PI p t
 refine Mu.ac fun C hC => ?_
 unfold HA
 repeat' with_reducible first | refine W ?_ | refine Z0 ?_ | ((first | refine Wo fun K hK => ?_ | refine Wp ?_ | refine Wq ?_ | refine Wr ?_); (try simp only [go_sem, fN, seval, eT, iR, dT, dF, nL]); (repeat refine Ai ?_); (try (refine hK _ ?_; clear hK K)); try refine iC ?_)
 refine ⟨_, _, N6 p t (by omega) (up1 900) _ (BL 900) (by rw [Bv]; rfl), ?_⟩
 cases hc : (p.mt t []).2 with
 | false =>
  repeat' with_reducible first | refine W ?_ | refine Z0 ?_ | ((first | refine Wo fun K hK => ?_ | refine Wp ?_ | refine Wq ?_ | refine Wr ?_); (try simp only [go_sem, fN, seval, eT, iR, hc, dT, dF, nL]); (repeat refine Ai ?_); (try (refine hK _ ?_; clear hK K)); try refine iC ?_)
  simp only [go_sem, fN, seval, AK, AS.result, AB, AD, AI]
  unfold A4 Bc
  rw [hc]
  rfl
 | true =>
  have hca : A4 p t = BR (p.mt t []).1 := by unfold A4; rw [if_pos hc]
  have his : Bc p t = true := hc
  rw [MP hc]
  repeat' (first | (with_reducible first | refine W ?_ | refine Z0 ?_ | ((first | refine Wo fun K hK => ?_ | refine Wp ?_ | refine Wq ?_ | refine Wr ?_); (try simp only [go_sem, fN, seval, eT, iR, hc, dT, dF, nL]); (repeat refine Ai ?_); (try (refine hK _ ?_; clear hK K)); try refine iC ?_)) | refine Cg _ (RF _ hnm (by omega)) ?_)
  simp only [go_sem, fN, seval, AK, AS.result, AB, AD, AI, hca, his]

end Go.Proofs.YtgcddcaachpbnaaGreat
