/-
  Part 8 of the texts. Conditions: none.
-/
import Derived.Test.YtgcddcaachpbnaaGreatReM7
import Derived.Shelf.Strconv.Itoa3
import Derived.Shelf.SlSortCmp.WholeK
import Derived.Shelf.SlSortCmp.NoneTotal
import Derived.Test.YtgcddcaachpbnaaGreatProg
namespace Go.Proofs.YtgcddcaachpbnaaGreat
open Go
set_option linter.unusedVariables false
def Bm : List (Tm × Nat) → Tm → Tm
 | [], x => x
 | (t, i) :: V, x => Bm V (.mk t.name (t.args.set i x))
mutual
def Tm.visits : List (Tm × Nat) → Tm → List (List (Tm × Nat) × Tm)
 | V, .mk n xs => (V, .mk n xs) :: Tm.visitsL V (.mk n xs) 0 xs
def Tm.visitsL : List (Tm × Nat) → Tm → Nat → List Tm → List (List (Tm × Nat) × Tm)
 | _, _, _, [] => []
 | V, t, k, x :: xs => Tm.visits ((t, k) :: V) x ++ Tm.visitsL V t (k + 1) xs
end
theorem Tm.visits_eq (V : List (Tm × Nat)) (t : Tm) : t.visits V = (V, t) :: Tm.visitsL V t 0 t.args := by cases t; rfl
theorem Mf {V : List (Tm × Nat)} {t a : Tm} {k : Nat} {xs : List Tm} (h : xs[k]? = some a) : Tm.visitsL V t k (xs.drop k) = a.visits ((t, k) :: V) ++ Tm.visitsL V t (k + 1) (xs.drop (k + 1)) := by
 obtain ⟨hk, he⟩ := List.getElem?_eq_some_iff.1 h
 rw [List.drop_eq_getElem_cons hk, he, Tm.visitsL]
abbrev Gl := (Tm → Tm) × Tm
def Ci (q : List (Tm × Nat) × Tm) : Gl := (Bm q.1, q.2)
def HO (V : List (Tm × Nat)) (t : Tm) (p : List Int) : Gl := (fun y => Bm V (t.putP p y), (t.atP p).getD Tm.nil)
mutual
theorem DG : ∀ (t : Tm) (V : List (Tm × Nat)), (t.visits V).map Ci = t.places.map (HO V t)
 | .mk n xs, V => by
  rw [Tm.visits, Tm.places, List.map_cons, List.map_cons, FI n xs 0 xs V (by simp)]
  rfl
theorem FI (n : ByteArray) (all : List Tm) : ∀ (k : Nat) (xs : List Tm) (V : List (Tm × Nat)), all.drop k = xs → (Tm.visitsL V (.mk n all) k xs).map Ci = (Tm.placesFrom k xs).map (HO V (.mk n all))
 | _, [], _, _ => rfl
 | k, x :: xs, V, h => by
  have hk : all[k]? = some x := by
   have := congrArg (fun l => l[0]?) h
   simpa using this
  rw [Tm.visitsL, Tm.placesFrom, List.map_append, List.map_append, DG x, FI n all (k + 1) xs V (by rw [← List.tail_drop, h]; rfl), List.map_map]
  congr 1
  refine List.map_congr_left fun p _ => ?_
  show (fun y => Bm ((Tm.mk n all, k) :: V) (x.putP p y), (x.atP p).getD Tm.nil) = (fun y => Bm V ((Tm.mk n all).putP ((k : Int) :: p) y), ((Tm.mk n all).atP ((k : Int) :: p)).getD Tm.nil)
  rw [Tm.atP_at (t := .mk n all) hk]
  congr 1
  funext y
  rw [Tm.putP_at (t := .mk n all) hk]
  rfl
end
def CE (q : Gl) : List Pr → Option (List Tm)
 | [] => some []
 | r :: l => if Bc r.1 q.2 = true then (if (Bw (A4 r.1 q.2) r.2).2 = true ∧ (q.1 (Bw (A4 r.1 q.2) r.2).1).size ≤ 2000 then (CE q l).map (q.1 (Bw (A4 r.1 q.2) r.2).1 :: ·) else none) else CE q l
def BB (R : List Pr) : List Gl → Option (List Tm)
 | [] => some []
 | q :: l => match CE q R with
  | none => none
  | some a => (BB R l).map (a ++ ·)
def C9 (R : List Pr) (t : Tm) : Option (List Tm) := BB R (t.places.map (HO [] t))
theorem Kb (R : List Pr) (t : Tm) : C9 R t = BB R ((t.visits []).map Ci) := by rw [DG]; rfl
theorem EI (R : List Pr) : ∀ a b : List Gl, BB R (a ++ b) = match BB R a with
  | none => none
  | some x => (BB R b).map (x ++ ·)
 | [], b => by
  simp only [List.nil_append, BB]
  cases BB R b <;> simp
 | q :: a, b => by
  rw [List.cons_append, BB, BB, EI R a b]
  cases CE q R with
  | none => rfl
  | some x =>
   simp only
   cases BB R a with
   | none => rfl
   | some y => cases BB R b <;> simp
theorem IV {R : List Pr} {a : List Gl} {q : Gl} {x y : List Tm} (h : BB R a = some x) (h2 : CE q R = some y) : BB R (a ++ [q]) = some (x ++ y) := by
 rw [EI, h]
 simp [BB, h2]
theorem J8 {R : List Pr} {a b : List Gl} {q : Gl} (h2 : CE q R = none) : BB R (a ++ q :: b) = none := by
 rw [EI, BB, h2]
 cases BB R a <;> rfl
theorem LW (q : Gl) : ∀ (l : List Pr) (k : Nat), (D4 q.2 k l = (Tm.nil, -1, 0) ∧ CE q l = some []) ∨
  ∃ (i : Nat) (y : Tm) (r : Pr), k ≤ i ∧ i < k + l.length ∧ r ∈ l ∧ Bc r.1 q.2 = true ∧ (Bw (A4 r.1 q.2) r.2).1 = y ∧ ((D4 q.2 k l = (y, (i : Int), 0) ∧ (Bw (A4 r.1 q.2) r.2).2 = true ∧ CE q l = if (q.1 y).size ≤ 2000 then (CE q (l.drop (i + 1 - k))).map (q.1 y :: ·) else none) ∨ (D4 q.2 k l = (Tm.nil, (i : Int), 8) ∧ CE q l = none))
 | [], k => .inl ⟨rfl, rfl⟩
 | r :: l, k => by
  rw [D4, CE]
  by_cases h : Bc r.1 q.2 = true
  ·rw [if_pos h, if_pos h]
   refine .inr ⟨k, _, r, Nat.le_refl k, by simp, by simp, h, rfl, ?_⟩
   by_cases h2 : (Bw (A4 r.1 q.2) r.2).2 = true
   ·refine .inl ⟨by rw [if_pos h2], h2, ?_⟩
    by_cases h3 : (q.1 (Bw (A4 r.1 q.2) r.2).1).size ≤ 2000
    ·rw [if_pos ⟨h2, h3⟩, if_pos h3, show k + 1 - k = 1 by omega]
     rfl
    ·rw [if_neg (fun h => h3 h.2), if_neg h3]
   ·exact .inr ⟨by rw [if_neg h2, Mw h2], by rw [if_neg (fun h => h2 h.1)]⟩
  ·rw [if_neg h, if_neg h]
   rcases LW q l (k + 1) with ⟨h1, h3⟩ | ⟨i, y, r', h1, h2, hm, hc, hy, h3⟩
   ·exact .inl ⟨h1, h3⟩
   ·refine .inr ⟨i, y, r', by omega, by rw [List.length_cons]; omega, List.mem_cons_of_mem _ hm, hc, hy, ?_⟩
    rcases h3 with ⟨h3, h4, h5⟩ | h3
    ·refine .inl ⟨h3, h4, ?_⟩
     rw [h5, show i + 1 - k = (i + 1 - (k + 1)) + 1 by omega, List.drop_succ_cons]
    ·exact .inr h3
theorem K6 {s : List Bd} {t : Tm} : (Bw s t).1.size ≤ 2000 := by
 unfold Bw
 split
 ·assumption
 ·decide
def LG : List (Tm × Nat) → Prop
 | [] => True
 | (t, i) :: V => i < t.args.length ∧ t.args.length ≤ 1000000 ∧ LG V
mutual
theorem Lx : ∀ (t : Tm) (V : List (Tm × Nat)), LG V → t.size ≤ 1000000 → ∀ q ∈ t.visits V, LG q.1 ∧ q.2 ∈ t.knots
 | .mk n xs, V, hV, hz, q, hq => by
  rw [Tm.visits] at hq
  rw [Tm.knots]
  rcases List.mem_cons.1 hq with rfl | hq
  ·exact ⟨hV, List.mem_cons_self⟩
  ·have := Jj n xs 0 xs V (by simp) hV hz q hq
   exact ⟨this.1, List.mem_cons_of_mem _ this.2⟩
theorem Jj (n : ByteArray) (all : List Tm) : ∀ (k : Nat) (xs : List Tm) (V : List (Tm × Nat)), all.drop k = xs → LG V → (Tm.mk n all).size ≤ 1000000 → ∀ q ∈ Tm.visitsL V (.mk n all) k xs, LG q.1 ∧ q.2 ∈ Tm.knotsL xs
 | _, [], _, _, _, _, q, hq => by simp [Tm.visitsL] at hq
 | k, x :: xs, V, h, hV, hz, q, hq => by
  have hk : all[k]? = some x := by
   have := congrArg (fun l => l[0]?) h
   simpa using this
  have hlt : k < all.length := (List.getElem?_eq_some_iff.1 hk).1
  have hl := Tm.length_le all
  have hx := ET x hk
  have hx2 : x.size ≤ Tm.sizes all := by
   have h2 := Tm.length_le all
   have : ∀ {l : List Tm}, x ∈ l → x.size ≤ Tm.sizes l := fun {l} hm => by
    induction l with
    | nil => cases hm
    | cons y ys ih =>
     simp only [Tm.sizes]
     rcases List.mem_cons.1 hm with rfl | hm
     ·omega
     ·have := ih hm
      omega
   exact this (List.mem_of_getElem? hk)
  simp only [Tm.size] at hz
  rw [Tm.visitsL] at hq
  rw [Tm.knotsL]
  rcases List.mem_append.1 hq with hq | hq
  ·have := Lx x ((.mk n all, k) :: V) ⟨hlt, by show all.length ≤ _; omega, hV⟩ (by omega) q hq
   exact ⟨this.1, List.mem_append_left _ this.2⟩
  ·have := Jj n all (k + 1) xs V (by rw [← List.tail_drop, h]; rfl) hV (by simp only [Tm.size]; omega) q hq
   exact ⟨this.1, List.mem_append_right _ this.2⟩
end
theorem IM : ∀ (p : List Int) (t y : Tm), (t.putP p y).size ≤ t.size + y.size
 | [], t, y => by rw [Tm.putP_nil]; omega
 | i :: p, t, y => by
  rw [Tm.putP_cons]
  split
  ·rename_i a ha
   have h1 := ET (a.putP p y) ha
   have h2 := IM p a y
   have h3 := Tm.size_eq t
   simp only [Tm.size]
   omega
  ·omega
theorem OA {t : Tm} {q : List (Tm × Nat) × Tm} (hq : q ∈ t.visits []) (y : Tm) : (Bm q.1 y).size ≤ t.size + y.size := by
 have h1 : Ci q ∈ (t.visits []).map Ci := List.mem_map_of_mem hq
 rw [DG] at h1
 obtain ⟨p, _, h2⟩ := List.mem_map.1 h1
 have h3 : Bm q.1 = fun y => Bm [] (t.putP p y) := (congrArg Prod.fst h2).symm
 rw [h3]
 exact IM p t y
theorem Hp {q : Gl} : ∀ {l : List Pr} {a : List Tm}, CE q l = some a → a.length ≤ l.length
 | [], a, h => by cases h; simp
 | r :: l, a, h => by
  rw [CE] at h
  split at h
  ·split at h
   ·rw [Option.map_eq_some_iff] at h
    obtain ⟨b, h1, rfl⟩ := h
    have := Hp h1
    simp only [List.length_cons]
    omega
   ·cases h
  ·have := Hp h
   simp only [List.length_cons]
   omega
theorem C2 {R : List Pr} : ∀ {l : List Gl} {a : List Tm}, BB R l = some a → a.length ≤ l.length * R.length
 | [], a, h => by cases h; simp
 | q :: l, a, h => by
  rw [BB] at h
  split at h
  ·cases h
  ·rename_i b hb
   rw [Option.map_eq_some_iff] at h
   obtain ⟨c, h1, rfl⟩ := h
   have h2 := Hp hb
   have h3 := C2 h1
   simp only [List.length_cons, List.length_append, Nat.add_mul]
   omega
theorem PY (t : Tm) (V : List (Tm × Nat)) : (t.visits V).length = t.size := by
 have := congrArg List.length (DG t V)
 simp only [List.length_map] at this
 rw [this, Tm.places_length]

open Go.RowKit
set_option maxRecDepth 100000
def Ab : IR :=
 (.seq (.ops [.i 6 (.mov (.c (.one (.st (.bool false)))))]) (.seq (.seq (.ops [.m 10 0, .i 11 (.len false (.t 10)), .m 12 1, .i 13 (.len false (.t 12)), .i 14 (.bin .neq (.t 11) (.t 13))]) (.cond (.t 14) (.seq (.ops [.i 6 (.mov (.c (.one (.st (.bool false)))))]) .ret) .skip)) (.seq (.seq (.ops [.m 15 0, .i 16 (.len false (.t 15)), .i 17 (.mov (.n 0))]) (.block 0 (.loop (.seq (.ops [.i 18 (.bin .lss (.t 17) (.t 16))]) (.seq (.cond (.t 18) .skip (.exit 0)) (.seq (.block 1 (.seq (.ops [.m 19 17, .i 20 (.indexAddr 2 (.t 15) (.t 17)), .L 21 2 20, .i 8 (.alloc 25 [.st (.str (ByteArray.mk (#[]))), .full []]), .m 7 19, .s 2 8 21]) (.seq (.ops [.m 22 1, .m 23 7, .i 24 (.indexAddr 2 (.t 22) (.t 23)), .L 25 2 24, .i 9 (.alloc 25 [.st (.str (ByteArray.mk (#[]))), .full []]), .s 2 9 25]) (.seq (.ops [.m 26 2, .L 27 2 8, .L 28 2 9, .i 29 (.callV (.t 26) [.t 27, .t 28]), .i 30 (.un .not (.t 29))]) (.cond (.t 30) (.seq (.ops [.i 6 (.mov (.c (.one (.st (.bool false)))))]) .ret) .skip))))) (.ops [.i 31 (.bin .add (.t 17) (.n 1)), .m 17 31]))))))) (.seq (.ops [.i 6 (.mov (.c (.one (.st (.bool true)))))]) .ret))))
theorem Au : OkF Tryz.prog 116 32 [] Ab [.t 6] := .of Tryz.func116 rfl rfl (by kernel_rfl) rfl
def He : IR :=
 (.seq (.ops [.i 2 (.box 25 (.t 0)), .i 3 (.box 25 (.t 1)), .i 4 (.mov (.c (.one (.st (.bool false)))))]) (.seq (.ops [.f 5 0 2, .l 6 5, .f 7 0 3, .l 8 7, .i 9 (.bin .eql (.t 6) (.t 8)), .m 10 9, .mk (some 11) (some (10, true)) (.fieldAddr 1 (.t 2)) .no, .mk (some 12) (some (10, true)) (.load false 1 (.t 11)) .no, .mk (some 13) (some (10, true)) (.fieldAddr 1 (.t 3)) .no, .mk (some 14) (some (10, true)) (.load false 1 (.t 13)) .no, .mk (some 15) (some (10, true)) (.call 116 [.t 12, .t 14, .c (.one (.fn 99 []))]) .no, .i 16 (.pick (.t 10) (.t 15) (.c (.one (.st (.bool false))))), .m 4 16]) .ret))
theorem MZ : OkF Tryz.prog 99 17 [] He [.t 4] := .of Tryz.func99 rfl rfl (by kernel_rfl) rfl

set_option linter.unusedSimpArgs false
set_option maxHeartbeats 800000
theorem Tm.beqL_no {xs ys : List Tm} (h : xs ≠ ys) : Tm.beqL xs ys = false := by
 rw [← Bool.not_eq_true, Tm.beqL_iff]
 exact h
theorem NZ (xs ys : List Tm) (ih : ∀ x ∈ xs, ∀ y, AN Tryz.prog 99 [aTm x, aTm y] (Ad (x.beq y))) :
  AN Tryz.prog 116 [FH xs, FH ys, .one (.fn 99 [])] (Ad (Tm.beqL xs ys)) := by
 have hplain : CJ Tryz.prog 99 = true := by kernel_rfl
 refine Au.ac fun C hC => ?_
 unfold Ab
 refine IWP.learn 0 (by omega) fun hkn => ?_
 have hkx := Dd hkn
 rw [List.length_map] at hkx
 by_cases hl : xs.length = ys.length
 ·have hl' : (xs.length : Int) = ys.length := by omega
  repeat' with_reducible first | refine W ?_ | refine Z0 ?_ | ((first | refine Wo fun K hK => ?_ | refine Wp ?_ | refine Wq ?_ | refine Wr ?_); (try simp only [go_sem, fN, seval, eT, iR, hl', dT, dF, nL]); (repeat refine Ai ?_); (try (refine hK _ ?_; clear hK K)); try refine iC ?_)
  refine IWP.loopD [8, 9] (fun n s => ∃ k, k ≤ xs.length ∧ n = xs.length - k ∧ xs.take k = ys.take k ∧ s.env 1 = FH ys ∧ s.env 2 = .one (.fn 99 []) ∧ s.env 15 = FH xs ∧ s.env 16 = AO xs.length ∧ s.env 17 = AO k ∧ s.S 8 = none ∧ s.S 9 = none) xs.length ⟨0, Nat.zero_le _, rfl, rfl, rfl, rfl, rfl, by simp only [go_sem, fN, seval, eT, iR, hl'], rfl, rfl, rfl⟩ ?_
  rintro n ⟨env, S⟩ ⟨k, hk, rfl, h0, e1, e2, e15, e16, e17, s8, s9⟩
  simp only at e1 e2 e15 e16 e17 s8 s9
  by_cases hlt : (k : Int) < xs.length
  ·obtain ⟨x, hx⟩ := Af (show k < xs.length by omega)
   obtain ⟨y, hy⟩ := Af (show k < ys.length by omega)
   repeat' with_reducible first | refine W ?_ | refine Z0 ?_ | ((first | refine Wo fun K hK => ?_ | refine Wp ?_ | refine Wq ?_ | refine Wr ?_); (try simp only [go_sem, fN, seval, eT, iR, e1, e2, e15, e16, e17, s8, s9, hlt, hx, hy, hplain, dT, dF, nL]); (repeat refine Ai ?_); (try (refine hK _ ?_; clear hK K)); try refine iC ?_)
   refine ⟨_, _, (ih x (AP hx) y).toS rfl, ?_⟩
   cases hxy : x.beq y with
   | false =>
    repeat' with_reducible first | refine W ?_ | refine Z0 ?_ | ((first | refine Wo fun K hK => ?_ | refine Wp ?_ | refine Wq ?_ | refine Wr ?_); (try simp only [go_sem, fN, seval, eT, iR, hxy, dT, dF, nL]); (repeat refine Ai ?_); (try (refine hK _ ?_; clear hK K)); try refine iC ?_)
    simp only [go_sem, fN, seval, AK, AS.result, AB, AD, AI]
    rw [Tm.beqL_no fun e => by
     subst e
     rw [hx] at hy
     cases hy
     rw [Tm.beq_refl] at hxy
     cases hxy]
   | true =>
    have hxy' := (Tm.beq_iff x y).1 hxy
    repeat' with_reducible first | refine W ?_ | refine Z0 ?_ | ((first | refine Wo fun K hK => ?_ | refine Wp ?_ | refine Wq ?_ | refine Wr ?_); (try simp only [go_sem, fN, seval, eT, iR, hxy, e1, e2, e15, e16, e17, s8, s9, dT, dF, nL]); (repeat refine Ai ?_); (try (refine hK _ ?_; clear hK K)); try refine iC ?_)
    refine AF ⟨xs.length - (k + 1), by omega, k + 1, by omega, rfl, ?_, ?_⟩
    ·rw [Ak hx, Ak hy, h0, hxy']
    ·simp only [go_sem, fN, seval, AS.drop, Ac, AC.clears, AC.clear, AC.highs, AC.high, Bool.not_false, Bool.true_and, Bool.and_self, AV.purge, AV.purges, AC.purge, AL.purge, List.contains_cons, List.contains_nil, Nat.reduceBEq, Bool.or_self, Bool.or_false, Bool.false_or, Bool.or_true, eT, iR, e1, e2, e15, e16, e17, s8, s9]
     congr 3
  ·repeat' with_reducible first | refine W ?_ | refine Z0 ?_ | ((first | refine Wo fun K hK => ?_ | refine Wp ?_ | refine Wq ?_ | refine Wr ?_); (try simp only [go_sem, fN, seval, eT, iR, e1, e2, e15, e16, e17, hlt, dT, dF, nL]); (repeat refine Ai ?_); (try (refine hK _ ?_; clear hK K)); try refine iC ?_)
   simp only [go_sem, fN, seval, AK, AS.result, AB, AD, AI]
   rw [List.take_of_length_le (by omega), List.take_of_length_le (by omega)] at h0
   rw [(Tm.beqL_iff xs ys).2 h0]
 ·have hl' : ¬ (xs.length : Int) = ys.length := by omega
  repeat' with_reducible first | refine W ?_ | refine Z0 ?_ | ((first | refine Wo fun K hK => ?_ | refine Wp ?_ | refine Wq ?_ | refine Wr ?_); (try simp only [go_sem, fN, seval, eT, iR, hl', dT, dF, nL]); (repeat refine Ai ?_); (try (refine hK _ ?_; clear hK K)); try refine iC ?_)
  simp only [go_sem, fN, seval, AK, AS.result, AB, AD, AI]
  rw [Tm.beqL_no fun e => hl (by rw [e])]
theorem Sw (a b : Tm) : AN Tryz.prog 99 [aTm a, aTm b] (Ad (a.beq b)) := by
 induction h : SizeOf.sizeOf a using Nat.strongRecOn generalizing a b with
 | _ N ih =>
 subst h
 have hE := NZ a.args b.args fun x hx y => ih _ (Tm.lt_of_arg hx) x y rfl
 have he : a.beq b = (decide (a.name = b.name) && Tm.beqL a.args b.args) := by cases a; cases b; rfl
 refine MZ.ac fun C hC => ?_
 unfold He
 by_cases hn : a.name = b.name
 ·repeat' (first | (with_reducible first | refine W ?_ | refine Z0 ?_ | ((first | refine Wo fun K hK => ?_ | refine Wp ?_ | refine Wq ?_ | refine Wr ?_); (try simp only [go_sem, fN, seval, eT, iR, hn, dT, dF, nL]); (repeat refine Ai ?_); (try (refine hK _ ?_; clear hK K)); try refine iC ?_)) | refine Cg _ (hE) ?_)
  simp only [go_sem, fN, seval, AK, AS.result, AB, AD, AI]
  rw [he, decide_eq_true hn]
  rfl
 ·repeat' with_reducible first | refine W ?_ | refine Z0 ?_ | ((first | refine Wo fun K hK => ?_ | refine Wp ?_ | refine Wq ?_ | refine Wr ?_); (try simp only [go_sem, fN, seval, eT, iR, hn, dT, dF, nL]); (repeat refine Ai ?_); (try (refine hK _ ?_; clear hK K)); try refine iC ?_)
  simp only [go_sem, fN, seval, AK, AS.result, AB, AD, AI]
  rw [he, decide_eq_false hn]
  rfl

def BX : IR :=
 (.seq (.ops [.i 4 (.mov (.c (.one (.st (.bool false)))))]) (.seq (.ops [.m 5 0, .m 6 1, .i 7 (.callS 94 [.t 5, .t 6]), .i 8 (.bin .geq (.t 7) (.n 0)), .m 4 8]) .ret))
theorem CV : OkF Tryz.prog 64 9 [7] BX [.t 4] := .of Tryz.func64 rfl rfl (by kernel_rfl) rfl
def Bk : IR :=
 (.seq (.ops [.i 4 (.mov (.n 0))]) (.seq (.seq (.ops [.m 6 0, .i 7 (.len false (.t 6)), .i 8 (.mov (.n 0))]) (.block 0 (.loop (.seq (.ops [.i 9 (.bin .lss (.t 8) (.t 7))]) (.seq (.cond (.t 9) .skip (.exit 0)) (.seq (.block 1 (.seq (.ops [.m 10 8, .m 5 10]) (.seq (.ops [.m 11 1, .m 12 0, .m 13 5, .i 14 (.indexAddr 1 (.t 12) (.t 13)), .l 15 14, .i 16 (.callV (.t 11) [.t 15])]) (.cond (.t 16) (.seq (.ops [.m 17 5, .m 4 17]) .ret) .skip)))) (.ops [.i 18 (.bin .add (.t 8) (.n 1)), .m 8 18]))))))) (.seq (.ops [.i 4 (.mov (.c (.one (.st (.int .i64 (-1))))))]) .ret)))
theorem Cm : OkF Tryz.prog 94 19 [] Bk [.t 4] := .of Tryz.func94 rfl rfl (by kernel_rfl) rfl
def Di : IR :=
 (.seq (.ops [.i 3 (.mov (.c (.one (.st (.bool false)))))]) (.seq (.ops [.l 4 1, .m 5 0, .i 6 (.call 66 [.t 4, .t 5]), .i 7 (.un .not (.t 6)), .m 3 7]) .ret))
theorem Gx : OkF Tryz.prog 65 8 [] Di [.t 3] := .of Tryz.func65 rfl rfl (by kernel_rfl) rfl
def EW : IR :=
 (.seq (.ops [.i 2 (.mov (.n 0))]) (.seq (.seq (.ops [.m 7 0, .i 8 (.len false (.t 7)), .i 9 (.bin .gtr (.t 8) (.n 40))]) (.cond (.t 9) (.seq (.ops [.i 2 (.mov (.n 3))]) .ret) .skip)) (.seq (.seq (.ops [.m 10 0, .i 11 (.len false (.t 10)), .i 12 (.mov (.n 0))]) (.block 0 (.loop (.seq (.ops [.i 13 (.bin .lss (.t 12) (.t 11))]) (.seq (.cond (.t 13) .skip (.exit 0)) (.seq (.block 1 (.seq (.ops [.i 14 (.indexAddr 4 (.t 10) (.t 12)), .L 15 4 14, .i 4 (.alloc 34 [.st (.str (ByteArray.mk (#[]))), .full [], .st (.str (ByteArray.mk (#[]))), .full []]), .s 4 4 15]) (.seq (.seq (.ops [.f 16 0 4, .L 17 2 16, .f 18 2 4, .L 19 2 18, .i 20 (.call 61 [.t 17, .t 19]), .m 5 20]) (.seq (.ops [.m 21 5, .i 22 (.bin .neq (.t 21) (.n 0))]) (.cond (.t 22) (.seq (.ops [.m 23 5, .m 2 23]) .ret) .skip))) (.seq (.seq (.ops [.f 24 0 4, .f 25 0 24, .l 26 25, .i 27 (.call 62 [.t 26])]) (.cond (.t 27) (.seq (.ops [.i 2 (.mov (.n 2))]) .ret) .skip)) (.seq (.ops [.f 28 0 4, .L 29 2 28, .i 30 (.call 63 [.t 29]), .i 6 (.alloc 31 [.full []]), .s 1 6 30]) (.seq (.ops [.f 31 2 4, .L 32 2 31, .i 33 (.call 63 [.t 32]), .i 34 (.makeFunc 65 [.t 6]), .i 35 (.callS 64 [.t 33, .t 34])]) (.cond (.t 35) (.seq (.ops [.i 2 (.mov (.n 15))]) .ret) .skip))))))) (.ops [.i 36 (.bin .add (.t 12) (.n 1)), .m 12 36]))))))) (.seq (.ops [.i 2 (.mov (.n 0))]) .ret))))
theorem H2 : OkF Tryz.prog 35 37 [35] EW [.t 2] := .of Tryz.func35 rfl rfl (by kernel_rfl) rfl
def E9 : IR :=
 (.seq (.ops [.i 3 (.box 25 (.t 1)), .i 4 (.mov (.n 0))]) (.seq (.seq (.ops [.m 6 0, .i 7 (.call 35 [.t 6]), .m 5 7]) (.seq (.ops [.m 8 5, .i 9 (.bin .neq (.t 8) (.n 0))]) (.cond (.t 9) (.seq (.ops [.m 10 5, .m 4 10]) .ret) .skip))) (.seq (.ops [.L 11 2 3, .i 12 (.call 48 [.t 11]), .m 4 12]) .ret)))
theorem Iz : OkF Tryz.prog 27 13 [] E9 [.t 4] := .of Tryz.func27 rfl rfl (by kernel_rfl) rfl
def FB : IR :=
 (.seq (.ops [.i 4 (.box 25 (.t 1)), .i 6 (.alloc 25 [.st (.str (ByteArray.mk (#[]))), .full []]), .i 7 (.mov (.n 0)), .i 8 (.mov (.n 0))]) (.seq (.seq (.ops [.m 14 2, .m 9 14]) (.block 0 (.loop (.seq (.seq (.ops [.m 15 9, .m 16 0, .i 17 (.len false (.t 16)), .i 18 (.bin .lss (.t 15) (.t 17))]) (.cond (.t 18) .skip (.exit 0))) (.seq (.block 1 (.seq (.ops [.m 22 0, .m 23 9, .i 24 (.indexAddr 4 (.t 22) (.t 23)), .f 25 0 24, .L 26 2 25, .L 27 2 4, .i 28 (.call 80 [.t 26, .t 27]), .m 21 28, .i 29 (.extract 0 (.t 21)), .i 30 (.extract 1 (.t 21)), .m 10 29, .m 11 30]) (.seq (.ops [.m 31 11]) (.cond (.t 31) (.seq (.ops [.m 33 10, .m 34 0, .m 35 9, .i 36 (.indexAddr 4 (.t 34) (.t 35)), .f 37 2 36, .L 38 2 37, .i 39 (.call 81 [.t 33, .t 38]), .m 32 39, .i 40 (.extract 0 (.t 32)), .i 41 (.extract 1 (.t 32)), .i 12 (.alloc 25 [.st (.str (ByteArray.mk (#[]))), .full []]), .s 2 12 40, .m 13 41]) (.seq (.seq (.ops [.m 42 13, .i 43 (.un .not (.t 42))]) (.cond (.t 43) (.seq (.ops [.i 44 (.build [.st (.str (ByteArray.mk (#[]))), .full []] []), .m 45 9, .s 2 6 44, .m 7 45, .i 8 (.mov (.n 8))]) .ret) .skip)) (.seq (.ops [.L 46 2 12, .m 47 9, .s 2 6 46, .m 7 47, .i 8 (.mov (.n 0))]) .ret))) .skip)))) (.ops [.m 19 9, .i 20 (.bin .add (.t 19) (.n 1)), .m 9 20])))))) (.seq (.ops [.i 48 (.build [.st (.str (ByteArray.mk (#[]))), .full []] []), .s 2 6 48, .i 7 (.mov (.c (.one (.st (.int .i64 (-1)))))), .i 8 (.mov (.n 0))]) .ret)))
theorem Iv : OkF Tryz.prog 53 49 [] FB [.cell 6 true 2, .t 7, .t 8] := .of Tryz.func53 rfl rfl (by kernel_rfl) rfl
def DN : IR :=
 (.seq (.ops [.i 3 (.box 25 (.t 1)), .i 4 (.alloc 25 [.st (.str (ByteArray.mk (#[]))), .full []]), .i 5 (.mov (.c (.one (.st (.bool false))))), .i 6 (.mov (.n 0))]) (.seq (.seq (.ops [.f 15 1 3, .l 16 15, .i 17 (.len false (.t 16)), .i 18 (.mov (.n 0))]) (.block 0 (.loop (.seq (.ops [.i 19 (.bin .lss (.t 18) (.t 17))]) (.seq (.cond (.t 19) .skip (.exit 0)) (.seq (.block 1 (.seq (.ops [.m 20 18, .m 7 20]) (.seq (.ops [.m 22 0, .f 23 1 3, .l 24 23, .m 25 7, .i 26 (.indexAddr 2 (.t 24) (.t 25)), .L 27 2 26, .i 28 (.call 97 [.t 22, .t 27]), .m 21 28, .i 29 (.extract 0 (.t 21)), .i 30 (.extract 1 (.t 21)), .i 31 (.extract 2 (.t 21)), .i 8 (.alloc 25 [.st (.str (ByteArray.mk (#[]))), .full []]), .s 2 8 29, .m 9 30, .m 10 31]) (.seq (.ops [.m 32 10, .i 33 (.bin .neq (.t 32) (.n 0)), .m 34 33, .mk (some 35) (some (34, false)) (.mov (.t 9)) .no, .i 36 (.pick (.t 34) (.c (.one (.st (.bool true)))) (.t 35))]) (.cond (.t 36) (.seq (.ops [.f 37 0 3, .l 38 37, .f 39 1 3, .l 40 39, .i 41 (.callN 98 [.t 40]), .i 42 (.build [.st (.str (ByteArray.mk (#[]))), .full []] [(0, 1, .t 38), (1, 1, .t 41)]), .i 11 (.alloc 25 [.st (.str (ByteArray.mk (#[]))), .full []]), .s 2 11 42]) (.seq (.ops [.f 43 1 11, .l 44 43, .m 45 7, .L 46 2 8, .i 47 (.indexAddr 2 (.t 44) (.t 45)), .s 2 47 46]) (.seq (.ops [.L 48 2 11, .m 49 9, .m 50 10, .s 2 4 48, .m 5 49, .m 6 50]) .ret))) .skip))))) (.ops [.i 51 (.bin .add (.t 18) (.n 1)), .m 18 51]))))))) (.seq (.ops [.m 53 0, .L 54 2 3, .i 55 (.call 53 [.t 53, .t 54, .n 0]), .m 52 55, .i 56 (.extract 0 (.t 52)), .i 57 (.extract 1 (.t 52)), .i 58 (.extract 2 (.t 52)), .i 12 (.alloc 25 [.st (.str (ByteArray.mk (#[]))), .full []]), .s 2 12 56, .m 13 57, .m 14 58]) (.seq (.ops [.L 59 2 12, .m 60 13, .i 61 (.bin .geq (.t 60) (.n 0)), .m 62 14, .s 2 4 59, .m 5 61, .m 6 62]) .ret))))
theorem FN : OkF Tryz.prog 97 63 [20000041] DN [.cell 4 true 2, .t 5, .t 6] := .of Tryz.func97 rfl rfl (by kernel_rfl) rfl
def CI : IR :=
 (.seq (.ops [.i 3 (.box 25 (.t 1)), .i 4 (.alloc 25 [.st (.str (ByteArray.mk (#[]))), .full []]), .i 5 (.mov (.c (.one (.st (.bool false))))), .i 6 (.mov (.n 0))]) (.seq (.ops [.m 16 0, .L 17 2 3, .i 18 (.call 53 [.t 16, .t 17, .n 0]), .m 15 18, .i 19 (.extract 0 (.t 15)), .i 20 (.extract 1 (.t 15)), .i 21 (.extract 2 (.t 15)), .i 7 (.alloc 25 [.st (.str (ByteArray.mk (#[]))), .full []]), .s 2 7 19, .m 8 20, .m 9 21]) (.seq (.seq (.ops [.m 22 8, .i 23 (.bin .geq (.t 22) (.n 0)), .m 24 23, .mk (some 25) (some (24, false)) (.mov (.t 9)) .no, .mk (some 26) (some (24, false)) (.bin .neq (.t 25) (.n 0)) .no, .i 27 (.pick (.t 24) (.c (.one (.st (.bool true)))) (.t 26))]) (.cond (.t 27) (.seq (.ops [.L 28 2 7, .m 29 8, .i 30 (.bin .geq (.t 29) (.n 0)), .m 31 9, .s 2 4 28, .m 5 30, .m 6 31]) .ret) .skip)) (.seq (.seq (.ops [.f 32 1 3, .l 33 32, .i 34 (.len false (.t 33)), .i 35 (.mov (.n 0))]) (.block 0 (.loop (.seq (.ops [.i 36 (.bin .lss (.t 35) (.t 34))]) (.seq (.cond (.t 36) .skip (.exit 0)) (.seq (.block 1 (.seq (.ops [.m 37 35, .m 10 37]) (.seq (.ops [.m 39 0, .f 40 1 3, .l 41 40, .m 42 10, .i 43 (.indexAddr 2 (.t 41) (.t 42)), .L 44 2 43, .i 45 (.call 70 [.t 39, .t 44]), .m 38 45, .i 46 (.extract 0 (.t 38)), .i 47 (.extract 1 (.t 38)), .i 48 (.extract 2 (.t 38)), .i 11 (.alloc 25 [.st (.str (ByteArray.mk (#[]))), .full []]), .s 2 11 46, .m 12 47, .m 13 48]) (.seq (.ops [.m 49 13, .i 50 (.bin .neq (.t 49) (.n 0)), .m 51 50, .mk (some 52) (some (51, false)) (.mov (.t 12)) .no, .i 53 (.pick (.t 51) (.c (.one (.st (.bool true)))) (.t 52))]) (.cond (.t 53) (.seq (.ops [.f 54 0 3, .l 55 54, .f 56 1 3, .l 57 56, .i 58 (.callN 98 [.t 57]), .i 59 (.build [.st (.str (ByteArray.mk (#[]))), .full []] [(0, 1, .t 55), (1, 1, .t 58)]), .i 14 (.alloc 25 [.st (.str (ByteArray.mk (#[]))), .full []]), .s 2 14 59]) (.seq (.ops [.f 60 1 14, .l 61 60, .m 62 10, .L 63 2 11, .i 64 (.indexAddr 2 (.t 61) (.t 62)), .s 2 64 63]) (.seq (.ops [.L 65 2 14, .m 66 12, .m 67 13, .s 2 4 65, .m 5 66, .m 6 67]) .ret))) .skip))))) (.ops [.i 68 (.bin .add (.t 35) (.n 1)), .m 35 68]))))))) (.seq (.ops [.L 69 2 3, .s 2 4 69, .i 5 (.mov (.c (.one (.st (.bool false))))), .i 6 (.mov (.n 0))]) .ret)))))
theorem DM : OkF Tryz.prog 70 70 [20000058] CI [.cell 4 true 2, .t 5, .t 6] := .of Tryz.func70 rfl rfl (by kernel_rfl) rfl
def EL : IR :=
 (.seq (.ops [.i 4 (.box 25 (.t 1)), .i 6 (.alloc 25 [.st (.str (ByteArray.mk (#[]))), .full []]), .i 7 (.mov (.n 0)), .i 8 (.mov (.n 0))]) (.seq (.ops [.m 12 0, .L 13 2 4, .i 14 (.call 27 [.t 12, .t 13]), .m 9 14]) (.seq (.seq (.ops [.m 15 9, .i 16 (.bin .eql (.t 15) (.n 0))]) (.cond (.t 16) (.ops [.m 17 2, .i 18 (.call 68 [.t 17]), .m 9 18]) .skip)) (.seq (.seq (.ops [.m 19 9, .i 20 (.bin .neq (.t 19) (.n 0))]) (.cond (.t 20) (.seq (.ops [.i 21 (.build [.st (.str (ByteArray.mk (#[]))), .full []] []), .m 22 9, .s 2 6 21, .i 7 (.mov (.n 0)), .m 8 22]) .ret) .skip)) (.seq (.ops [.m 24 0, .L 25 2 4, .m 26 2, .i 27 (.call 69 [.t 24, .t 25, .t 26]), .m 23 27, .i 28 (.extract 0 (.t 23)), .i 29 (.extract 1 (.t 23)), .i 30 (.extract 2 (.t 23)), .i 10 (.alloc 25 [.st (.str (ByteArray.mk (#[]))), .full []]), .s 2 10 28, .m 11 29, .m 9 30]) (.seq (.seq (.ops [.m 31 9, .i 32 (.bin .neq (.t 31) (.n 0))]) (.cond (.t 32) (.seq (.ops [.i 33 (.build [.st (.str (ByteArray.mk (#[]))), .full []] []), .m 34 9, .s 2 6 33, .i 7 (.mov (.n 0)), .m 8 34]) .ret) .skip)) (.seq (.ops [.L 35 2 10, .m 36 11, .s 2 6 35, .m 7 36, .i 8 (.mov (.n 0))]) .ret)))))))
theorem H3 : OkF Tryz.prog 39 37 [] EL [.cell 6 true 2, .t 7, .t 8] := .of Tryz.func39 rfl rfl (by kernel_rfl) rfl
def E8 : IR :=
 (.seq (.ops [.i 4 (.box 25 (.t 1)), .i 6 (.alloc 25 [.st (.str (ByteArray.mk (#[]))), .full []]), .i 7 (.mov (.n 0)), .i 8 (.mov (.n 0))]) (.seq (.ops [.L 13 2 4, .i 14 (.call 55 [.t 13]), .s 2 4 14]) (.seq (.ops [.i 9 (.mov (.n 0))]) (.block 0 (.loop (.seq (.block 1 (.seq (.ops [.m 18 0, .L 19 2 4, .i 20 (.call 97 [.t 18, .t 19]), .m 17 20, .i 21 (.extract 0 (.t 17)), .i 22 (.extract 1 (.t 17)), .i 23 (.extract 2 (.t 17)), .i 10 (.alloc 25 [.st (.str (ByteArray.mk (#[]))), .full []]), .s 2 10 21, .m 11 22, .m 12 23]) (.seq (.seq (.ops [.m 24 11, .m 25 24, .mk (some 26) (some (25, true)) (.mov (.t 9)) .no, .mk (some 27) (some (25, true)) (.mov (.t 2)) .no, .mk (some 28) (some (25, true)) (.bin .eql (.t 26) (.t 27)) .no, .i 29 (.pick (.t 25) (.t 28) (.c (.one (.st (.bool false)))))]) (.cond (.t 29) (.ops [.i 12 (.mov (.n 9))]) .skip)) (.seq (.seq (.ops [.m 30 12, .i 31 (.bin .neq (.t 30) (.n 0))]) (.cond (.t 31) (.seq (.ops [.i 32 (.build [.st (.str (ByteArray.mk (#[]))), .full []] []), .m 33 12, .s 2 6 32, .i 7 (.mov (.n 0)), .m 8 33]) .ret) .skip)) (.seq (.seq (.ops [.m 34 11, .i 35 (.un .not (.t 34))]) (.cond (.t 35) (.seq (.ops [.L 36 2 4, .m 37 9, .s 2 6 36, .m 7 37, .i 8 (.mov (.n 0))]) .ret) .skip)) (.seq (.ops [.L 38 2 10, .s 2 4 38]) (.seq (.ops [.L 39 2 4, .i 40 (.call 54 [.t 39]), .i 41 (.bin .gtr (.t 40) (.n 2000))]) (.cond (.t 41) (.seq (.ops [.i 42 (.build [.st (.str (ByteArray.mk (#[]))), .full []] []), .s 2 6 42, .i 7 (.mov (.n 0)), .i 8 (.mov (.n 8))]) .ret) .skip)))))))) (.ops [.m 15 9, .i 16 (.bin .add (.t 15) (.n 1)), .m 9 16])))))))
theorem Iu : OkF Tryz.prog 69 43 [] E8 [.cell 6 true 2, .t 7, .t 8] := .of Tryz.func69 rfl rfl (by kernel_rfl) rfl
def Eh : IR :=
 (.seq (.ops [.i 4 (.box 25 (.t 1)), .i 6 (.alloc 25 [.st (.str (ByteArray.mk (#[]))), .full []]), .i 7 (.mov (.n 0)), .i 8 (.mov (.n 0))]) (.seq (.ops [.m 14 0, .L 15 2 4, .i 16 (.call 27 [.t 14, .t 15]), .m 9 16]) (.seq (.seq (.ops [.m 17 9, .i 18 (.bin .eql (.t 17) (.n 0))]) (.cond (.t 18) (.ops [.m 19 2, .i 20 (.call 68 [.t 19]), .m 9 20]) .skip)) (.seq (.seq (.ops [.m 21 9, .i 22 (.bin .neq (.t 21) (.n 0))]) (.cond (.t 22) (.seq (.ops [.i 23 (.build [.st (.str (ByteArray.mk (#[]))), .full []] []), .m 24 9, .s 2 6 23, .i 7 (.mov (.n 0)), .m 8 24]) .ret) .skip)) (.seq (.ops [.L 25 2 4, .i 26 (.call 55 [.t 25]), .s 2 4 26]) (.seq (.ops [.i 10 (.mov (.n 0))]) (.block 0 (.loop (.seq (.block 1 (.seq (.ops [.m 30 0, .L 31 2 4, .i 32 (.call 70 [.t 30, .t 31]), .m 29 32, .i 33 (.extract 0 (.t 29)), .i 34 (.extract 1 (.t 29)), .i 35 (.extract 2 (.t 29)), .i 11 (.alloc 25 [.st (.str (ByteArray.mk (#[]))), .full []]), .s 2 11 33, .m 12 34, .m 13 35]) (.seq (.seq (.ops [.m 36 12, .m 37 36, .mk (some 38) (some (37, true)) (.mov (.t 10)) .no, .mk (some 39) (some (37, true)) (.mov (.t 2)) .no, .mk (some 40) (some (37, true)) (.bin .eql (.t 38) (.t 39)) .no, .i 41 (.pick (.t 37) (.t 40) (.c (.one (.st (.bool false)))))]) (.cond (.t 41) (.ops [.i 13 (.mov (.n 9))]) .skip)) (.seq (.seq (.ops [.m 42 13, .i 43 (.bin .neq (.t 42) (.n 0))]) (.cond (.t 43) (.seq (.ops [.i 44 (.build [.st (.str (ByteArray.mk (#[]))), .full []] []), .m 45 13, .s 2 6 44, .i 7 (.mov (.n 0)), .m 8 45]) .ret) .skip)) (.seq (.seq (.ops [.m 46 12, .i 47 (.un .not (.t 46))]) (.cond (.t 47) (.seq (.ops [.L 48 2 4, .m 49 10, .s 2 6 48, .m 7 49, .i 8 (.mov (.n 0))]) .ret) .skip)) (.seq (.ops [.L 50 2 11, .i 51 (.call 55 [.t 50]), .s 2 4 51]) (.seq (.ops [.L 52 2 4, .i 53 (.call 54 [.t 52]), .i 54 (.bin .gtr (.t 53) (.n 2000))]) (.cond (.t 54) (.seq (.ops [.i 55 (.build [.st (.str (ByteArray.mk (#[]))), .full []] []), .s 2 6 55, .i 7 (.mov (.n 0)), .i 8 (.mov (.n 8))]) .ret) .skip)))))))) (.ops [.m 27 10, .i 28 (.bin .add (.t 27) (.n 1)), .m 10 28]))))))))))
theorem ID : OkF Tryz.prog 40 56 [] Eh [.cell 6 true 2, .t 7, .t 8] := .of Tryz.func40 rfl rfl (by kernel_rfl) rfl
def E6 : IR :=
 (.seq (.ops [.i 5 (.box 25 (.t 1)), .i 6 (.box 25 (.t 2)), .i 8 (.mov (.c (.one (.st (.bool false))))), .i 9 (.mov (.n 0))]) (.seq (.ops [.m 11 0, .L 12 2 5, .i 13 (.call 27 [.t 11, .t 12]), .m 10 13]) (.seq (.seq (.ops [.m 14 10, .i 15 (.bin .eql (.t 14) (.n 0))]) (.cond (.t 15) (.ops [.L 16 2 6, .i 17 (.call 48 [.t 16]), .m 10 17]) .skip)) (.seq (.seq (.ops [.m 18 10, .i 19 (.bin .eql (.t 18) (.n 0))]) (.cond (.t 19) (.ops [.m 20 3, .i 21 (.call 68 [.t 20]), .m 10 21]) .skip)) (.seq (.seq (.ops [.m 22 10, .i 23 (.bin .neq (.t 22) (.n 0))]) (.cond (.t 23) (.seq (.ops [.m 24 10, .i 8 (.mov (.c (.one (.st (.bool false))))), .m 9 24]) .ret) .skip)) (.seq (.ops [.m 25 0, .L 26 2 5, .L 27 2 6, .m 28 3, .i 29 (.call 71 [.t 25, .t 26, .t 27, .t 28]), .i 30 (.extract 0 (.t 29)), .i 31 (.extract 1 (.t 29)), .m 8 30, .m 9 31]) .ret))))))
theorem I2 : OkF Tryz.prog 41 32 [] E6 [.t 8, .t 9] := .of Tryz.func41 rfl rfl (by kernel_rfl) rfl
def FZ : IR :=
 (.seq (.ops [.i 5 (.box 25 (.t 1)), .i 6 (.box 25 (.t 2)), .i 8 (.mov (.c (.one (.st (.bool false))))), .i 9 (.mov (.n 0))]) (.seq (.ops [.m 16 0, .L 17 2 5, .m 18 3, .i 19 (.call 69 [.t 16, .t 17, .t 18]), .m 15 19, .i 20 (.extract 0 (.t 15)), .i 21 (.extract 1 (.t 15)), .i 22 (.extract 2 (.t 15)), .i 10 (.alloc 25 [.st (.str (ByteArray.mk (#[]))), .full []]), .s 2 10 20, .m 11 21, .m 12 22]) (.seq (.seq (.ops [.m 23 12, .i 24 (.bin .neq (.t 23) (.n 0))]) (.cond (.t 24) (.seq (.ops [.m 25 12, .i 8 (.mov (.c (.one (.st (.bool false))))), .m 9 25]) .ret) .skip)) (.seq (.ops [.m 27 0, .L 28 2 6, .m 29 3, .i 30 (.call 69 [.t 27, .t 28, .t 29]), .m 26 30, .i 31 (.extract 0 (.t 26)), .i 32 (.extract 1 (.t 26)), .i 33 (.extract 2 (.t 26)), .i 13 (.alloc 25 [.st (.str (ByteArray.mk (#[]))), .full []]), .s 2 13 31, .m 14 32, .m 12 33]) (.seq (.seq (.ops [.m 34 12, .i 35 (.bin .neq (.t 34) (.n 0))]) (.cond (.t 35) (.seq (.ops [.m 36 12, .i 8 (.mov (.c (.one (.st (.bool false))))), .m 9 36]) .ret) .skip)) (.seq (.ops [.L 37 2 10, .L 38 2 13, .i 39 (.call 99 [.t 37, .t 38]), .m 8 39, .i 9 (.mov (.n 0))]) .ret))))))
theorem JL : OkF Tryz.prog 71 40 [] FZ [.t 8, .t 9] := .of Tryz.func71 rfl rfl (by kernel_rfl) rfl
def FA : IR :=
 (.seq (.ops [.i 2 (.mov (.n 0))]) (.seq (.seq (.ops [.m 3 0, .i 4 (.bin .lss (.t 3) (.n 0)), .m 5 4, .mk (some 6) (some (5, false)) (.mov (.t 0)) .no, .mk (some 7) (some (5, false)) (.bin .gtr (.t 6) (.n 400)) .no, .i 8 (.pick (.t 5) (.c (.one (.st (.bool true)))) (.t 7))]) (.cond (.t 8) (.seq (.ops [.i 2 (.mov (.n 10))]) .ret) .skip)) (.seq (.ops [.i 2 (.mov (.n 0))]) .ret)))
theorem Ix : OkF Tryz.prog 68 9 [] FA [.t 2] := .of Tryz.func68 rfl rfl (by kernel_rfl) rfl
def GH : IR :=
 (.seq (.ops [.i 2 (.mov (.n 0))]) (.seq (.seq (.ops [.m 8 0, .i 9 (.len false (.t 8)), .i 10 (.bin .gtr (.t 9) (.n 40))]) (.cond (.t 10) (.seq (.ops [.i 2 (.mov (.n 3))]) .ret) .skip)) (.seq (.seq (.ops [.i 3 (.mov (.n 0))]) (.block 0 (.loop (.seq (.seq (.ops [.m 11 3, .m 12 0, .i 13 (.len false (.t 12)), .i 14 (.bin .lss (.t 11) (.t 13))]) (.cond (.t 14) .skip (.exit 0))) (.seq (.block 1 (.seq (.ops [.m 17 0, .m 18 3, .i 19 (.indexAddr 4 (.t 17) (.t 18)), .f 20 0 19, .L 21 2 20, .m 22 0, .m 23 3, .i 24 (.indexAddr 4 (.t 22) (.t 23)), .f 25 2 24, .L 26 2 25, .i 27 (.call 18 [.t 21, .t 26]), .m 4 27]) (.seq (.seq (.ops [.m 28 4, .i 29 (.bin .neq (.t 28) (.n 0))]) (.cond (.t 29) (.seq (.ops [.m 30 4, .m 2 30]) .ret) .skip)) (.seq (.seq (.ops [.m 31 0, .m 32 3, .i 33 (.indexAddr 4 (.t 31) (.t 32)), .f 34 0 33, .f 35 0 34, .l 36 35, .i 37 (.call 19 [.t 36])]) (.cond (.t 37) (.seq (.ops [.i 2 (.mov (.n 2))]) .ret) .skip)) (.seq (.ops [.m 38 0, .m 39 3, .i 40 (.indexAddr 4 (.t 38) (.t 39)), .f 41 0 40, .L 42 2 41, .i 43 (.call 20 [.t 42]), .m 5 43]) (.seq (.ops [.m 44 0, .m 45 3, .i 46 (.indexAddr 4 (.t 44) (.t 45)), .f 47 2 46, .L 48 2 47, .i 49 (.call 20 [.t 48]), .m 6 49]) (.seq (.ops [.i 7 (.mov (.n 0))]) (.block 2 (.loop (.seq (.seq (.ops [.m 50 7, .m 51 6, .i 52 (.len false (.t 51)), .i 53 (.bin .lss (.t 50) (.t 52))]) (.cond (.t 53) .skip (.exit 2))) (.seq (.block 3 (.seq (.ops [.m 56 6, .m 57 7, .i 58 (.indexAddr 1 (.t 56) (.t 57)), .l 59 58, .m 60 5, .i 61 (.call 21 [.t 59, .t 60]), .i 62 (.un .not (.t 61))]) (.cond (.t 62) (.seq (.ops [.i 2 (.mov (.n 15))]) .ret) .skip))) (.ops [.m 54 7, .i 55 (.bin .add (.t 54) (.n 1)), .m 7 55])))))))))))) (.ops [.m 15 3, .i 16 (.bin .add (.t 15) (.n 1)), .m 3 16])))))) (.seq (.ops [.i 2 (.mov (.n 0))]) .ret))))
theorem Kt : OkF Tryz.prog 7 63 [] GH [.t 2] := .of Tryz.func7 rfl rfl (by kernel_rfl) rfl
def Li : IR :=
 (.seq (.ops [.i 2 (.box 34 (.t 0)), .i 3 (.box 25 (.t 1)), .i 4 (.alloc 25 [.st (.str (ByteArray.mk (#[]))), .full []]), .i 5 (.mov (.c (.one (.st (.bool false))))), .i 6 (.mov (.c (.one (.st (.bool false)))))]) (.seq (.ops [.f 12 0 2, .L 13 2 12, .L 14 2 3, .i 15 (.call 72 [.t 13, .t 14]), .m 11 15, .i 16 (.extract 0 (.t 11)), .i 17 (.extract 1 (.t 11)), .m 7 16, .m 8 17]) (.seq (.seq (.ops [.m 18 8, .i 19 (.un .not (.t 18))]) (.cond (.t 19) (.seq (.ops [.i 20 (.build [.st (.str (ByteArray.mk (#[]))), .full []] []), .s 2 4 20, .i 5 (.mov (.c (.one (.st (.bool false))))), .i 6 (.mov (.c (.one (.st (.bool false)))))]) .ret) .skip)) (.seq (.ops [.m 22 7, .f 23 2 2, .L 24 2 23, .i 25 (.call 73 [.t 22, .t 24]), .m 21 25, .i 26 (.extract 0 (.t 21)), .i 27 (.extract 1 (.t 21)), .i 9 (.alloc 25 [.st (.str (ByteArray.mk (#[]))), .full []]), .s 2 9 26, .m 10 27]) (.seq (.ops [.L 28 2 9, .m 29 10, .i 30 (.un .not (.t 29)), .s 2 4 28, .i 5 (.mov (.c (.one (.st (.bool true))))), .m 6 30]) .ret)))))
theorem Rm : OkF Tryz.prog 46 31 [] Li [.cell 4 true 2, .t 5, .t 6] := .of Tryz.func46 rfl rfl (by kernel_rfl) rfl
def Oj : IR :=
 (.seq (.ops [.i 3 (.box 25 (.t 1)), .i 4 (.mov (.c (.one (.st (.bool false)))))]) (.seq (.seq (.ops [.i 5 (.mov (.n 0))]) (.block 0 (.loop (.seq (.seq (.ops [.m 8 5, .m 9 0, .i 10 (.len false (.t 9)), .i 11 (.bin .lss (.t 8) (.t 10))]) (.cond (.t 11) .skip (.exit 0))) (.seq (.block 1 (.seq (.ops [.m 15 0, .m 16 5, .i 17 (.indexAddr 4 (.t 15) (.t 16)), .f 18 0 17, .L 19 2 18, .L 20 2 3, .i 21 (.call 72 [.t 19, .t 20]), .m 14 21, .i 22 (.extract 0 (.t 14)), .i 23 (.extract 1 (.t 14)), .m 6 22, .m 7 23]) (.seq (.ops [.m 24 7]) (.cond (.t 24) (.seq (.ops [.i 4 (.mov (.c (.one (.st (.bool true)))))]) .ret) .skip)))) (.ops [.m 12 5, .i 13 (.bin .add (.t 12) (.n 1)), .m 5 13])))))) (.seq (.ops [.i 4 (.mov (.c (.one (.st (.bool false)))))]) .ret)))
theorem Sn : OkF Tryz.prog 96 25 [] Oj [.t 4] := .of Tryz.func96 rfl rfl (by kernel_rfl) rfl
def K9 : IR :=
 (.seq (.ops [.i 4 (.box 25 (.t 1)), .i 6 (.mov (.c (.one (.full [])))), .i 7 (.mov (.c (.one (.st (.bool false)))))]) (.seq (.ops [.L 15 2 4, .i 16 (.call 44 [.t 15]), .m 8 16]) (.seq (.seq (.ops [.i 9 (.mov (.n 0))]) (.block 0 (.loop (.seq (.seq (.ops [.m 17 9, .m 18 8, .i 19 (.len false (.t 18)), .i 20 (.bin .lss (.t 17) (.t 19))]) (.cond (.t 20) .skip (.exit 0))) (.seq (.block 1 (.seq (.ops [.L 24 2 4, .m 25 8, .m 26 9, .i 27 (.indexAddr 1 (.t 25) (.t 26)), .l 28 27, .i 29 (.call 45 [.t 24, .t 28]), .m 23 29, .i 30 (.extract 0 (.t 23)), .i 31 (.extract 1 (.t 23)), .i 10 (.alloc 25 [.st (.str (ByteArray.mk (#[]))), .full []]), .s 2 10 30, .m 11 31]) (.seq (.seq (.ops [.m 32 0, .L 33 2 10, .i 34 (.call 96 [.t 32, .t 33]), .i 35 (.un .not (.t 34))]) (.cond (.t 35) (.exit 1) .skip)) (.seq (.ops [.L 36 2 10, .i 37 (.call 22 [.t 36]), .m 12 37]) (.seq (.ops [.i 13 (.mov (.c (.one (.st (.bool true)))))]) (.seq (.seq (.ops [.i 14 (.mov (.n 1))]) (.block 2 (.loop (.seq (.seq (.ops [.m 38 14, .m 39 12, .i 40 (.len false (.t 39)), .i 41 (.bin .lss (.t 38) (.t 40)), .m 42 41, .mk (some 43) (some (42, true)) (.mov (.t 2)) .no, .i 44 (.pick (.t 42) (.t 43) (.c (.one (.st (.bool false))))), .m 45 44, .mk (some 46) (some (45, true)) (.mov (.t 13)) .no, .i 47 (.pick (.t 45) (.t 46) (.c (.one (.st (.bool false)))))]) (.cond (.t 47) .skip (.exit 2))) (.seq (.block 3 (.ops [.m 50 0, .m 51 12, .m 52 14, .i 53 (.indexAddr 2 (.t 51) (.t 52)), .L 54 2 53, .i 55 (.call 96 [.t 50, .t 54]), .i 56 (.un .not (.t 55)), .m 13 56])) (.ops [.m 48 14, .i 49 (.bin .add (.t 48) (.n 1)), .m 14 49])))))) (.seq (.ops [.m 57 13]) (.cond (.t 57) (.seq (.ops [.m 58 8, .m 59 9, .i 60 (.indexAddr 1 (.t 58) (.t 59)), .l 61 60, .m 6 61, .i 7 (.mov (.c (.one (.st (.bool true)))))]) .ret) .skip)))))))) (.ops [.m 21 9, .i 22 (.bin .add (.t 21) (.n 1)), .m 9 22])))))) (.seq (.ops [.i 6 (.mov (.c (.one (.full [])))), .i 7 (.mov (.c (.one (.st (.bool false)))))]) .ret))))
theorem Qb : OkF Tryz.prog 67 62 [] K9 [.t 6, .t 7] := .of Tryz.func67 rfl rfl (by kernel_rfl) rfl
def KE : IR :=
 (.seq (.ops [.i 5 (.box 25 (.t 1)), .i 8 (.alloc 25 [.st (.str (ByteArray.mk (#[]))), .full []]), .i 9 (.mov (.n 0)), .i 10 (.mov (.n 0))]) (.seq (.ops [.i 11 (.mov (.n 0))]) (.block 0 (.loop (.block 1 (.seq (.ops [.m 21 0, .L 22 2 5, .m 23 3, .i 24 (.call 67 [.t 21, .t 22, .t 23]), .m 20 24, .i 25 (.extract 0 (.t 20)), .i 26 (.extract 1 (.t 20)), .m 12 25, .m 13 26]) (.seq (.seq (.ops [.m 27 13, .i 28 (.un .not (.t 27))]) (.cond (.t 28) (.seq (.ops [.L 29 2 5, .m 30 11, .s 2 8 29, .m 9 30, .i 10 (.mov (.n 0))]) .ret) .skip)) (.seq (.seq (.ops [.m 31 11, .m 32 2, .i 33 (.bin .eql (.t 31) (.t 32))]) (.cond (.t 33) (.seq (.ops [.i 34 (.build [.st (.str (ByteArray.mk (#[]))), .full []] []), .s 2 8 34, .i 9 (.mov (.n 0)), .i 10 (.mov (.n 9))]) .ret) .skip)) (.seq (.ops [.m 35 11, .i 36 (.bin .add (.t 35) (.n 1)), .m 11 36]) (.seq (.ops [.L 38 2 5, .m 39 12, .i 40 (.call 45 [.t 38, .t 39]), .m 37 40, .i 41 (.extract 0 (.t 37)), .i 42 (.extract 1 (.t 37)), .i 14 (.alloc 25 [.st (.str (ByteArray.mk (#[]))), .full []]), .s 2 14 41, .m 15 42]) (.seq (.seq (.ops [.i 16 (.mov (.n 0))]) (.block 2 (.loop (.seq (.seq (.ops [.m 43 16, .m 44 0, .i 45 (.len false (.t 44)), .i 46 (.bin .lss (.t 43) (.t 45))]) (.cond (.t 46) .skip (.exit 2))) (.seq (.block 3 (.seq (.ops [.m 50 0, .m 51 16, .i 52 (.indexAddr 4 (.t 50) (.t 51)), .L 53 4 52, .L 54 2 14, .i 55 (.call 46 [.t 53, .t 54]), .m 49 55, .i 56 (.extract 0 (.t 49)), .i 57 (.extract 1 (.t 49)), .i 58 (.extract 2 (.t 49)), .i 17 (.alloc 25 [.st (.str (ByteArray.mk (#[]))), .full []]), .s 2 17 56, .m 18 57, .m 19 58]) (.seq (.seq (.ops [.m 59 19]) (.cond (.t 59) (.seq (.ops [.i 60 (.build [.st (.str (ByteArray.mk (#[]))), .full []] []), .s 2 8 60, .i 9 (.mov (.n 0)), .i 10 (.mov (.n 8))]) .ret) .skip)) (.seq (.ops [.m 61 18]) (.cond (.t 61) (.seq (.ops [.L 62 2 5, .m 63 12, .L 64 2 17, .i 65 (.call 47 [.t 62, .t 63, .t 64]), .s 2 5 65]) (.exit 2)) .skip))))) (.ops [.m 47 16, .i 48 (.bin .add (.t 47) (.n 1)), .m 16 48])))))) (.seq (.ops [.L 66 2 5, .i 67 (.call 9 [.t 66, .n 2000]), .i 68 (.bin .gtr (.t 67) (.n 2000))]) (.cond (.t 68) (.seq (.ops [.i 69 (.build [.st (.str (ByteArray.mk (#[]))), .full []] []), .s 2 8 69, .i 9 (.mov (.n 0)), .i 10 (.mov (.n 8))]) .ret) .skip)))))))))))))
theorem PM : OkF Tryz.prog 37 70 [] KE [.cell 8 true 2, .t 9, .t 10] := .of Tryz.func37 rfl rfl (by kernel_rfl) rfl
def Ig : IR :=
 (.seq (.ops [.i 5 (.box 25 (.t 1)), .i 6 (.box 25 (.t 2)), .i 8 (.mov (.c (.one (.st (.bool false))))), .i 9 (.mov (.n 0))]) (.seq (.ops [.m 16 0, .L 17 2 5, .m 18 3, .i 19 (.call 37 [.t 16, .t 17, .t 18, .c (.one (.st (.bool true)))]), .m 15 19, .i 20 (.extract 0 (.t 15)), .i 21 (.extract 1 (.t 15)), .i 22 (.extract 2 (.t 15)), .i 10 (.alloc 25 [.st (.str (ByteArray.mk (#[]))), .full []]), .s 2 10 20, .m 11 21, .m 12 22]) (.seq (.seq (.ops [.m 23 12, .i 24 (.bin .neq (.t 23) (.n 0))]) (.cond (.t 24) (.seq (.ops [.m 25 12, .i 8 (.mov (.c (.one (.st (.bool false))))), .m 9 25]) .ret) .skip)) (.seq (.ops [.m 27 0, .L 28 2 6, .m 29 3, .i 30 (.call 37 [.t 27, .t 28, .t 29, .c (.one (.st (.bool true)))]), .m 26 30, .i 31 (.extract 0 (.t 26)), .i 32 (.extract 1 (.t 26)), .i 33 (.extract 2 (.t 26)), .i 13 (.alloc 25 [.st (.str (ByteArray.mk (#[]))), .full []]), .s 2 13 31, .m 14 32, .m 12 33]) (.seq (.seq (.ops [.m 34 12, .i 35 (.bin .neq (.t 34) (.n 0))]) (.cond (.t 35) (.seq (.ops [.m 36 12, .i 8 (.mov (.c (.one (.st (.bool false))))), .m 9 36]) .ret) .skip)) (.seq (.ops [.L 37 2 10, .L 38 2 13, .i 39 (.call 36 [.t 37, .t 38]), .m 8 39, .i 9 (.mov (.n 0))]) .ret))))))
theorem OS : OkF Tryz.prog 38 40 [] Ig [.t 8, .t 9] := .of Tryz.func38 rfl rfl (by kernel_rfl) rfl
def AT : IR :=
 (.seq (.ops [.i 5 (.box 25 (.t 1)), .i 6 (.box 25 (.t 2)), .i 8 (.mov (.c (.one (.st (.bool false)))))]) (.seq (.seq (.ops [.m 25 0, .i 26 (.call 5 [.t 25]), .m 27 26, .mk (some 28) (some (27, false)) (.load true 2 (.t 5)) .no, .mk (some 29) (some (27, false)) (.call 6 [.t 28]) .no, .i 30 (.pick (.t 27) (.c (.one (.st (.bool true)))) (.t 29)), .m 31 30, .mk (some 32) (some (31, false)) (.load true 2 (.t 6)) .no, .mk (some 33) (some (31, false)) (.call 6 [.t 32]) .no, .i 34 (.pick (.t 31) (.c (.one (.st (.bool true)))) (.t 33)), .m 35 34, .mk (some 36) (some (35, false)) (.mov (.t 3)) .no, .mk (some 37) (some (35, false)) (.bin .gtr (.t 36) (.n 30)) .no, .mk (some 38) (some (35, false)) (.mov (.t 37)) .no, .mk (some 39) (some (38, true)) (.mov (.t 3)) .no, .mk (some 40) (some (38, true)) (.bin .leq (.t 39) (.n 400)) .no, .mk (some 41) (some (35, false)) (.pick (.t 38) (.t 40) (.c (.one (.st (.bool false))))) .no, .i 42 (.pick (.t 35) (.c (.one (.st (.bool true)))) (.t 41))]) (.cond (.t 42) (.seq (.ops [.i 8 (.mov (.c (.one (.st (.bool true)))))]) .ret) .skip)) (.seq (.ops [.m 43 0, .i 44 (.call 7 [.t 43]), .m 9 44]) (.seq (.ops [.m 45 9, .m 10 45]) (.seq (.seq (.ops [.m 46 9, .i 47 (.bin .eql (.t 46) (.n 0))]) (.cond (.t 47) (.seq (.ops [.L 48 2 5, .i 49 (.call 8 [.t 48]), .m 9 49]) (.ops [.L 50 2 5, .L 51 2 6, .i 52 (.call 18 [.t 50, .t 51]), .m 10 52])) .skip)) (.seq (.seq (.ops [.m 53 10, .i 54 (.bin .eql (.t 53) (.n 0)), .m 55 54, .mk (some 56) (some (55, true)) (.load true 2 (.t 5)) .no, .mk (some 57) (some (55, true)) (.call 9 [.t 56, .n 40]) .no, .mk (some 58) (some (55, true)) (.bin .gtr (.t 57) (.n 40)) .no, .mk (some 59) (some (55, true)) (.mov (.t 58)) .no, .mk (some 60) (some (59, false)) (.load true 2 (.t 6)) .no, .mk (some 61) (some (59, false)) (.call 9 [.t 60, .n 40]) .no, .mk (some 62) (some (59, false)) (.bin .gtr (.t 61) (.n 40)) .no, .mk (some 63) (some (55, true)) (.pick (.t 59) (.c (.one (.st (.bool true)))) (.t 62)) .no, .mk (some 64) (some (55, true)) (.mov (.t 63)) .no, .mk (some 65) (some (64, false)) (.mov (.t 0)) .no, .mk (some 66) (some (64, false)) (.len false (.t 65)) .no, .mk (some 67) (some (64, false)) (.bin .gtr (.t 66) (.n 12)) .no, .mk (some 68) (some (55, true)) (.pick (.t 64) (.c (.one (.st (.bool true)))) (.t 67)) .no, .i 69 (.pick (.t 55) (.t 68) (.c (.one (.st (.bool false)))))]) (.cond (.t 69) (.seq (.ops [.i 8 (.mov (.c (.one (.st (.bool true)))))]) .ret) .skip)) (.seq (.seq (.ops [.m 70 3, .i 71 (.bin .lss (.t 70) (.n 0)), .m 72 71, .mk (some 73) (some (72, false)) (.mov (.t 3)) .no, .mk (some 74) (some (72, false)) (.bin .gtr (.t 73) (.n 400)) .no, .i 75 (.pick (.t 72) (.c (.one (.st (.bool true)))) (.t 74))]) (.cond (.t 75) (.seq (.seq (.ops [.m 76 9, .i 77 (.bin .eql (.t 76) (.n 0))]) (.cond (.t 77) (.ops [.i 9 (.mov (.n 10))]) .skip)) (.seq (.ops [.m 78 10, .i 79 (.bin .eql (.t 78) (.n 0))]) (.cond (.t 79) (.ops [.i 10 (.mov (.n 10))]) .skip))) .skip)) (.seq (.ops [.i 80 (.build [.st (.str (ByteArray.mk (#[]))), .full []] []), .i 11 (.alloc 25 [.st (.str (ByteArray.mk (#[]))), .full []]), .s 2 11 80]) (.seq (.ops [.i 81 (.build [.st (.str (ByteArray.mk (#[]))), .full []] []), .i 12 (.alloc 25 [.st (.str (ByteArray.mk (#[]))), .full []]), .s 2 12 81]) (.seq (.ops [.i 13 (.mov (.n 0))]) (.seq (.ops [.i 14 (.mov (.n 0))]) (.seq (.ops [.m 82 9, .m 15 82]) (.seq (.ops [.i 16 (.mov (.c (.one (.st (.bool false)))))]) (.seq (.seq (.ops [.m 83 9, .i 84 (.bin .eql (.t 83) (.n 0))]) (.cond (.t 84) (.seq (.ops [.m 86 0, .L 87 2 5, .m 88 3, .i 89 (.call 37 [.t 86, .t 87, .t 88, .c (.one (.st (.bool true)))]), .m 85 89, .i 90 (.extract 0 (.t 85)), .i 91 (.extract 1 (.t 85)), .i 92 (.extract 2 (.t 85)), .s 2 11 90, .m 13 91, .m 9 92]) (.ops [.m 94 0, .L 95 2 5, .m 96 3, .i 97 (.call 37 [.t 94, .t 95, .t 96, .c (.one (.st (.bool false)))]), .m 93 97, .i 98 (.extract 0 (.t 93)), .i 99 (.extract 1 (.t 93)), .i 100 (.extract 2 (.t 93)), .s 2 12 98, .m 14 99, .m 15 100])) .skip)) (.seq (.seq (.ops [.m 101 10, .i 102 (.bin .eql (.t 101) (.n 0))]) (.cond (.t 102) (.ops [.m 104 0, .L 105 2 5, .L 106 2 6, .m 107 3, .i 108 (.call 38 [.t 104, .t 105, .t 106, .t 107]), .m 103 108, .i 109 (.extract 0 (.t 103)), .i 110 (.extract 1 (.t 103)), .m 16 109, .m 10 110]) .skip)) (.seq (.ops [.m 112 0, .L 113 2 5, .m 114 3, .i 115 (.call 39 [.t 112, .t 113, .t 114]), .m 111 115, .i 116 (.extract 0 (.t 111)), .i 117 (.extract 1 (.t 111)), .i 118 (.extract 2 (.t 111)), .i 17 (.alloc 25 [.st (.str (ByteArray.mk (#[]))), .full []]), .s 2 17 116, .m 18 117, .m 19 118]) (.seq (.ops [.m 120 0, .L 121 2 5, .m 122 3, .i 123 (.call 40 [.t 120, .t 121, .t 122]), .m 119 123, .i 124 (.extract 0 (.t 119)), .i 125 (.extract 1 (.t 119)), .i 126 (.extract 2 (.t 119)), .i 20 (.alloc 25 [.st (.str (ByteArray.mk (#[]))), .full []]), .s 2 20 124, .m 21 125, .m 22 126]) (.seq (.ops [.m 128 0, .L 129 2 5, .L 130 2 6, .m 131 3, .i 132 (.call 41 [.t 128, .t 129, .t 130, .t 131]), .m 127 132, .i 133 (.extract 0 (.t 127)), .i 134 (.extract 1 (.t 127)), .m 23 133, .m 24 134]) (.seq (.ops [.L 135 2 17, .m 136 19, .L 137 2 11, .m 138 9, .i 139 (.call 42 [.t 135, .t 136, .t 137, .t 138]), .m 140 139, .mk (some 141) (some (140, true)) (.mov (.t 18)) .no, .mk (some 142) (some (140, true)) (.mov (.t 13)) .no, .mk (some 143) (some (140, true)) (.bin .eql (.t 141) (.t 142)) .no, .i 144 (.pick (.t 140) (.t 143) (.c (.one (.st (.bool false))))), .m 145 144, .mk (some 146) (some (145, true)) (.load true 2 (.t 20)) .no, .mk (some 147) (some (145, true)) (.mov (.t 22)) .no, .mk (some 148) (some (145, true)) (.load true 2 (.t 12)) .no, .mk (some 149) (some (145, true)) (.mov (.t 15)) .no, .mk (some 150) (some (145, true)) (.call 42 [.t 146, .t 147, .t 148, .t 149]) .no, .i 151 (.pick (.t 145) (.t 150) (.c (.one (.st (.bool false))))), .m 152 151, .mk (some 153) (some (152, true)) (.mov (.t 21)) .no, .mk (some 154) (some (152, true)) (.mov (.t 14)) .no, .mk (some 155) (some (152, true)) (.bin .eql (.t 153) (.t 154)) .no, .i 156 (.pick (.t 152) (.t 155) (.c (.one (.st (.bool false))))), .m 157 156, .mk (some 158) (some (157, true)) (.mov (.t 23)) .no, .mk (some 159) (some (157, true)) (.mov (.t 16)) .no, .mk (some 160) (some (157, true)) (.eqB false (.t 158) (.t 159)) .no, .i 161 (.pick (.t 157) (.t 160) (.c (.one (.st (.bool false))))), .m 162 161, .mk (some 163) (some (162, true)) (.mov (.t 24)) .no, .mk (some 164) (some (162, true)) (.mov (.t 10)) .no, .mk (some 165) (some (162, true)) (.bin .eql (.t 163) (.t 164)) .no, .i 166 (.pick (.t 162) (.t 165) (.c (.one (.st (.bool false))))), .m 8 166]) .ret)))))))))))))))))))
theorem AW : OkF Tryz.prog 17 167 [] AT [.t 8] := .of Tryz.func17 rfl rfl (by kernel_rfl) rfl

def GT : IR :=
 (.seq (.ops [.i 2 (.box 25 (.t 0)), .i 3 (.box 25 (.t 1)), .i 4 (.mov (.n 0))]) (.seq (.seq (.ops [.L 6 2 2, .i 7 (.call 48 [.t 6]), .m 5 7]) (.seq (.ops [.m 8 5, .i 9 (.bin .neq (.t 8) (.n 0))]) (.cond (.t 9) (.seq (.ops [.m 10 5, .m 4 10]) .ret) .skip))) (.seq (.ops [.L 11 2 3, .i 12 (.call 48 [.t 11]), .m 4 12]) .ret)))
theorem Kc : OkF Tryz.prog 61 13 [] GT [.t 4] := .of Tryz.func61 rfl rfl (by kernel_rfl) rfl

theorem Pa (a b : Tm) : AN Tryz.prog 61 [aTm a, aTm b] (AO (Bx a b)) := by
 refine Kc.ac fun C hC => ?_
 unfold GT
 repeat' with_reducible first | refine W ?_ | refine Z0 ?_ | ((first | refine Wo fun K hK => ?_ | refine Wp ?_ | refine Wq ?_ | refine Wr ?_); (try simp only [go_sem, fN, seval, eT, iR, dT, dF, nL]); (repeat refine Ai ?_); (try (refine hK _ ?_; clear hK K)); try refine iC ?_)
 refine ⟨_, Dy a, ?_⟩
 by_cases h : a.may = 0
 ·repeat' (first | (with_reducible first | refine W ?_ | refine Z0 ?_ | ((first | refine Wo fun K hK => ?_ | refine Wp ?_ | refine Wq ?_ | refine Wr ?_); (try simp only [go_sem, fN, seval, eT, iR, h, dT, dF, nL]); (repeat refine Ai ?_); (try (refine hK _ ?_; clear hK K)); try refine iC ?_)) | refine Cg _ (Dy b) ?_)
  simp only [go_sem, fN, seval, AK, AS.result, AB, AD, AI]
  unfold Bx
  rw [if_pos h]
 ·repeat' with_reducible first | refine W ?_ | refine Z0 ?_ | ((first | refine Wo fun K hK => ?_ | refine Wp ?_ | refine Wq ?_ | refine Wr ?_); (try simp only [go_sem, fN, seval, eT, iR, h, dT, dF, nL]); (repeat refine Ai ?_); (try (refine hK _ ?_; clear hK K)); try refine iC ?_)
  simp only [go_sem, fN, seval, AK, AS.result, AB, AD, AI]
  unfold Bx
  rw [if_neg h]

set_option maxHeartbeats 1000000
abbrev Uc (vs : List ByteArray) : AL := .box 31 [.st (.list (vs.map B7))]
theorem TT (vs : List ByteArray) (x : ByteArray) (b : Nat) (hb : 1000 ≤ b) (S : AA) (sb : S b = some (Uc vs)) : As Tryz.prog 65 [CP x, .one (.ptr b 1 0 0)] S (Ad (!CQ x vs)) S := by
 refine Gx.acS fun hS C hC => ?_
 unfold Di
 repeat' (first | (with_reducible first | refine W ?_ | refine Z0 ?_ | ((first | refine Wo fun K hK => ?_ | refine Wp ?_ | refine Wq ?_ | refine Wr ?_); (try simp only [go_sem, fN, seval, eT, iR, sb, dT, dF, nL]); (repeat refine Ai ?_); (try (refine hK _ ?_; clear hK K)); try refine iC ?_)) | refine Cg _ (Gh vs x) ?_)
 refine CO (Ad (!CQ x vs)) hS trivial ?_ rfl fun _ _ => rfl
 simp [AB, AD, AI, AG]
theorem Si {p : ByteArray → Bool} (xs : List ByteArray) : 0 ≤ (match xs.findIdx? p with | some i => (i : Int) | none => -1) ↔ xs.any p = true := by
 cases h : xs.findIdx? p with
 | some i =>
  rw [List.findIdx?_eq_some_iff_getElem] at h
  obtain ⟨h1, h2, _⟩ := h
  simp only [List.any_eq_true]
  exact ⟨fun _ => ⟨_, List.getElem_mem h1, h2⟩, fun _ => by omega⟩
 | none =>
  rw [List.findIdx?_eq_none_iff] at h
  constructor
  ·intro h'
   exact absurd h' (by decide)
  ·intro h'
   rw [List.any_eq_true] at h'
   obtain ⟨x, hx, hp⟩ := h'
   rw [h x hx] at hp
   cases hp
theorem OF {p : ByteArray → Bool} {xs : List ByteArray} {k : Nat} {x : ByteArray} (hx : xs[k]? = some x) (h : (xs.take k).any p = false) (hp : p x = true) : xs.findIdx? p = some k := by
 obtain ⟨hk, he⟩ := List.getElem?_eq_some_iff.1 hx
 rw [List.findIdx?_eq_some_iff_getElem]
 refine ⟨hk, by rw [he]; exact hp, fun j hj => ?_⟩
 rw [List.any_eq_false] at h
 have := h (xs[j]'(by omega)) (by
  rw [List.mem_take_iff_getElem]
  exact ⟨j, by omega, rfl⟩)
 simpa using this
theorem Lh {p : ByteArray → Bool} {xs : List ByteArray} {k : Nat} {x : ByteArray} (hx : xs[k]? = some x) (h : (xs.take k).any p = false) : (xs.take (k + 1)).any p = p x := by
 rw [Ak hx, List.any_append, h]
 simp
theorem MS (vs xs : List ByteArray) (hl : xs.length ≤ 9223372036854775807) (b : Nat) (hb : 1000 ≤ b) (S : AA) (sb : S b = some (Uc vs)) :
  As Tryz.prog 94 [B3 xs, .one (.fn 65 [.ptr b 1 0 0])] S (AO (match xs.findIdx? (fun x => !CQ x vs) with | some i => (i : Int) | none => -1)) S := by
 refine Cm.acS fun hS C hC => ?_
 unfold Bk
 repeat' with_reducible first | refine W ?_ | refine Z0 ?_ | ((first | refine Wo fun K hK => ?_ | refine Wp ?_ | refine Wq ?_ | refine Wr ?_); (try simp only [go_sem, fN, seval, eT, iR, dT, dF, nL]); (repeat refine Ai ?_); (try (refine hK _ ?_; clear hK K)); try refine iC ?_)
 refine IWP.loop (fun n s => ∃ k, k ≤ xs.length ∧ n = xs.length - k ∧ (xs.take k).any (fun x => !CQ x vs) = false ∧ s.env 0 = B3 xs ∧ s.env 1 = .one (.fn 65 [.ptr b 1 0 0]) ∧ s.env 7 = AO xs.length ∧ s.env 8 = AO k ∧ s.S = S) xs.length ⟨0, Nat.zero_le _, rfl, rfl, rfl, rfl, rfl, rfl, rfl⟩ ?_
 rintro n ⟨env, S'⟩ ⟨k, hk, rfl, hp, e0, e1, e7, e8, eS⟩
 simp only at e0 e1 e7 e8 eS
 subst eS
 by_cases hlt : (k : Int) < xs.length
 ·obtain ⟨x, hx⟩ := Af (show k < xs.length by omega)
  have hst := Lh (p := fun x => !CQ x vs) hx hp
  have hc := TT vs x (up1 b) (BL b) (upS S') (by rw [Bv, sb]; rfl)
  repeat' with_reducible first | refine W ?_ | refine Z0 ?_ | ((first | refine Wo fun K hK => ?_ | refine Wp ?_ | refine Wq ?_ | refine Wr ?_); (try simp only [go_sem, fN, seval, eT, iR, e0, e1, e7, e8, hlt, hx, dT, dF, nL]); (repeat refine Ai ?_); (try (refine hK _ ?_; clear hK K)); try refine iC ?_)
  first | refine ⟨by kernel_rfl, _, _, hc, ?_⟩ | refine ⟨_, _, hc, ?_⟩
  by_cases hr : (!CQ x vs) = true
  ·have hi := OF (p := fun x => !CQ x vs) hx hp hr
   repeat' with_reducible first | refine W ?_ | refine Z0 ?_ | ((first | refine Wo fun K hK => ?_ | refine Wp ?_ | refine Wq ?_ | refine Wr ?_); (try simp only [go_sem, fN, seval, eT, iR, e0, e1, e7, e8, hr, dT, dF, nL]); (repeat refine Ai ?_); (try (refine hK _ ?_; clear hK K)); try refine iC ?_)
   refine CO (AO k) hS trivial ?_ ?_ fun j hj => ?_
   ·simp [AB, AD, AI, AG]
   ·rw [hi]
    rfl
   ·rfl
  ·have hr' : (!CQ x vs) = false := by simpa using hr
   repeat' with_reducible first | refine W ?_ | refine Z0 ?_ | ((first | refine Wo fun K hK => ?_ | refine Wp ?_ | refine Wq ?_ | refine Wr ?_); (try simp only [go_sem, fN, seval, eT, iR, e0, e1, e7, e8, hr', dT, dF, nL]); (repeat refine Ai ?_); (try (refine hK _ ?_; clear hK K)); try refine iC ?_)
   refine AF ⟨xs.length - (k + 1), by omega, k + 1, by omega, rfl, ?_⟩
   simp only [go_sem, fN, seval, eT, iR, e0, e1, e7, e8]
   exact ⟨by rw [hst]; exact hr', by congr 3⟩
 ·rw [List.take_of_length_le (by omega)] at hp
  have hi : xs.findIdx? (fun x => !CQ x vs) = none := by
   rw [List.findIdx?_eq_none_iff]
   intro x hx
   rw [List.any_eq_false] at hp
   simpa using hp x hx
  repeat' with_reducible first | refine W ?_ | refine Z0 ?_ | ((first | refine Wo fun K hK => ?_ | refine Wp ?_ | refine Wq ?_ | refine Wr ?_); (try simp only [go_sem, fN, seval, eT, iR, e0, e1, e7, e8, hlt, dT, dF, nL]); (repeat refine Ai ?_); (try (refine hK _ ?_; clear hK K)); try refine iC ?_)
  refine CO (AO (-1)) hS trivial ?_ ?_ fun j hj => ?_
  ·simp [AB, AD, AI, AG]
  ·rw [hi]
   rfl
  ·rfl
theorem I8 (vs xs : List ByteArray) (hl : xs.length ≤ 9223372036854775807) (b : Nat) (hb : 1000 ≤ b) (S : AA) (sb : S b = some (Uc vs)) :
  As Tryz.prog 64 [B3 xs, .one (.fn 65 [.ptr b 1 0 0])] S (Ad (xs.any fun x => !CQ x vs)) S := by
 have hi := Si (p := fun x => !CQ x vs) xs
 generalize (xs.any fun x => !CQ x vs) = bb at hi ⊢
 refine CV.acS fun hS C hC => ?_
 unfold BX
 repeat' with_reducible first | refine W ?_ | refine Z0 ?_ | ((first | refine Wo fun K hK => ?_ | refine Wp ?_ | refine Wq ?_ | refine Wr ?_); (try simp only [go_sem, fN, seval, eT, iR, dT, dF, nL]); (repeat refine Ai ?_); (try (refine hK _ ?_; clear hK K)); try refine iC ?_)
 refine ⟨_, _, MS vs xs hl (up1 b) (BL b) (upS S) (by rw [Bv, sb]; rfl), ?_⟩
 generalize (match xs.findIdx? (fun x => !CQ x vs) with | some i => (i : Int) | none => -1) = q at hi
 repeat' with_reducible first | refine W ?_ | refine Z0 ?_ | ((first | refine Wo fun K hK => ?_ | refine Wp ?_ | refine Wq ?_ | refine Wr ?_); (try simp only [go_sem, fN, seval, eT, iR, hi, dT, dF, nL]); (repeat refine Ai ?_); (try (refine hK _ ?_; clear hK K)); try refine iC ?_)
 refine CO (Ad bb) hS trivial ?_ ?_ fun j hj => ?_
 ·simp [AB, AD, AI, AG]
 ·rfl
 ·rfl
theorem Ja (t : Tm) (h : t.size ≤ 200) : t.varsOf.length ≤ 1000 := by
 have h1 := Cv t.knots []
 rw [Tm.knots_length] at h1
 unfold Tm.varsOf
 simp only [List.length_nil] at h1
 omega
theorem DB (R : List Pr) : AN Tryz.prog 35 [Bg R] (AO (A3 R)) := by
 have hm : A3 R = if 40 < R.length then 3 else Dp Da R := rfl
 refine H2.ac fun C hC => ?_
 unfold EW
 by_cases h40 : (40 : Int) < R.length
 ·repeat' with_reducible first | refine W ?_ | refine Z0 ?_ | ((first | refine Wo fun K hK => ?_ | refine Wp ?_ | refine Wq ?_ | refine Wr ?_); (try simp only [go_sem, fN, seval, eT, iR, h40, dT, dF, nL]); (repeat refine Ai ?_); (try (refine hK _ ?_; clear hK K)); try refine iC ?_)
  simp only [go_sem, fN, seval, AK, AS.result, AB, AD, AI]
  rw [hm, if_pos (by omega)]
 rw [if_neg (by omega)] at hm
 repeat' with_reducible first | refine W ?_ | refine Z0 ?_ | ((first | refine Wo fun K hK => ?_ | refine Wp ?_ | refine Wq ?_ | refine Wr ?_); (try simp only [go_sem, fN, seval, eT, iR, h40, dT, dF, nL]); (repeat refine Ai ?_); (try (refine hK _ ?_; clear hK K)); try refine iC ?_)
 refine IWP.loopD [4, 6] (fun m s => ∃ k, k ≤ R.length ∧ m = R.length - k ∧ Dp Da (R.take k) = 0 ∧ s.env 10 = Bg R ∧ s.env 11 = AO R.length ∧ s.env 12 = AO k ∧ s.S 4 = none ∧ s.S 6 = none) R.length ⟨0, Nat.zero_le _, rfl, rfl, rfl, rfl, rfl, rfl, rfl⟩ ?_
 rintro m ⟨env, S⟩ ⟨k, hk, rfl, h0, e10, e11, e12, s4, s6⟩
 simp only at e10 e11 e12 s4 s6
 by_cases hlt : (k : Int) < R.length
 ·obtain ⟨r, hr⟩ := Af (show k < R.length by omega)
  obtain ⟨g1, g2⟩ := Nu hr h0
  have re : Da r = if Bx r.1 r.2 = 0 then (if A0 r.1.name = true then 2 else if GV r = true then 15 else 0) else Bx r.1 r.2 := rfl
  by_cases hz : Bx r.1 r.2 = 0
  case neg =>
   repeat' (first | (with_reducible first | refine W ?_ | refine Z0 ?_ | ((first | refine Wo fun K hK => ?_ | refine Wp ?_ | refine Wq ?_ | refine Wr ?_); (try simp only [go_sem, fN, seval, eT, iR, e10, e11, e12, s4, s6, hlt, hr, CR, hz, dT, dF, nL]); (repeat refine Ai ?_); (try (refine hK _ ?_; clear hK K)); try refine iC ?_)) | refine Cg _ (Pa r.1 r.2) ?_)
   simp only [go_sem, fN, seval, AK, AS.result, AB, AD, AI]
   rw [if_neg hz] at re
   rw [hm, g2 (by rw [re]; exact hz), re]
  case pos =>
  rw [if_pos hz] at re
  by_cases hv : A0 r.1.name = true
  ·repeat' (first | (with_reducible first | refine W ?_ | refine Z0 ?_ | ((first | refine Wo fun K hK => ?_ | refine Wp ?_ | refine Wq ?_ | refine Wr ?_); (try simp only [go_sem, fN, seval, eT, iR, e10, e11, e12, s4, s6, hlt, hr, CR, hz, hv, dT, dF, nL]); (repeat refine Ai ?_); (try (refine hK _ ?_; clear hK K)); try refine iC ?_)) | refine Cg _ (Pa r.1 r.2) ?_ | refine Cg _ (D0 r.1.name) ?_)
   simp only [go_sem, fN, seval, AK, AS.result, AB, AD, AI]
   rw [if_pos hv] at re
   rw [hm, g2 (by rw [re]; decide), re]
  rw [if_neg hv] at re
  have m12 : r.1.may = 0 ∧ r.2.may = 0 := by
   unfold Bx at hz
   by_cases h4 : r.1.may = 0
   ·rw [if_pos h4] at hz; exact ⟨h4, hz⟩
   ·rw [if_neg h4] at hz; exact absurd hz h4
  have z1 := (Tm.may_chk m12.1).2
  have z2 := (Tm.may_chk m12.2).2
  have l2 := Ja r.2 z2
  repeat' (first | (with_reducible first | refine W ?_ | refine Z0 ?_ | ((first | refine Wo fun K hK => ?_ | refine Wp ?_ | refine Wq ?_ | refine Wr ?_); (try simp only [go_sem, fN, seval, eT, iR, e10, e11, e12, s4, s6, hlt, hr, CR, hz, hv, dT, dF, nL]); (repeat refine Ai ?_); (try (refine hK _ ?_; clear hK K)); try refine iC ?_)) | refine Cg _ (Pa r.1 r.2) ?_ | refine Cg _ (D0 r.1.name) ?_ | refine Cg _ (TV r.1 (by omega)) ?_ | refine Cg _ (TV r.2 (by omega)) ?_)
  refine ⟨_, _, I8 r.1.varsOf r.2.varsOf (by omega) (up1 6) (BL 6) _ (by rw [Bv]; simp [AG]; rfl), ?_⟩
  have ho : GV r = r.2.varsOf.any fun v => !CQ v r.1.varsOf := rfl
  rw [← ho]
  by_cases hop : GV r = true
  ·repeat' with_reducible first | refine W ?_ | refine Z0 ?_ | ((first | refine Wo fun K hK => ?_ | refine Wp ?_ | refine Wq ?_ | refine Wr ?_); (try simp only [go_sem, fN, seval, eT, iR, hop, dT, dF, nL]); (repeat refine Ai ?_); (try (refine hK _ ?_; clear hK K)); try refine iC ?_)
   simp only [go_sem, fN, seval, AK, AS.result, AB, AD, AI]
   rw [if_pos hop] at re
   rw [hm, g2 (by rw [re]; decide), re]
  ·rw [if_neg hop] at re
   simp only [Bool.not_eq_true] at hop
   repeat' with_reducible first | refine W ?_ | refine Z0 ?_ | ((first | refine Wo fun K hK => ?_ | refine Wp ?_ | refine Wq ?_ | refine Wr ?_); (try simp only [go_sem, fN, seval, eT, iR, hop, e10, e11, e12, dT, dF, nL]); (repeat refine Ai ?_); (try (refine hK _ ?_; clear hK K)); try refine iC ?_)
   refine AF ⟨R.length - (k + 1), by omega, k + 1, by omega, rfl, g1 re, ?_⟩
   simp only [go_sem, fN, seval, AS.drop, Ac, AC.clears, AC.clear, AC.highs, AC.high, Bool.not_false, Bool.true_and, Bool.and_self, AV.purge, AV.purges, AC.purge, AL.purge, List.contains_cons, List.contains_nil, Nat.reduceBEq, Bool.or_self, Bool.or_false, Bool.false_or, Bool.or_true, eT, iR, e10, e11, e12, s4, s6]
   congr 3
 ·repeat' with_reducible first | refine W ?_ | refine Z0 ?_ | ((first | refine Wo fun K hK => ?_ | refine Wp ?_ | refine Wq ?_ | refine Wr ?_); (try simp only [go_sem, fN, seval, eT, iR, e10, e11, e12, hlt, dT, dF, nL]); (repeat refine Ai ?_); (try (refine hK _ ?_; clear hK K)); try refine iC ?_)
  simp only [go_sem, fN, seval, AK, AS.result, AB, AD, AI]
  rw [List.take_of_length_le (by omega)] at h0
  rw [hm, h0]
theorem BP (R : List Pr) (t : Tm) : AN Tryz.prog 27 [Bg R, aTm t] (AO (CA R t)) := by
 have hm : CA R t = if A3 R = 0 then t.may else A3 R := rfl
 refine Iz.ac fun C hC => ?_
 unfold E9
 by_cases h : A3 R = 0
 ·rw [if_pos h] at hm
  repeat' (first | (with_reducible first | refine W ?_ | refine Z0 ?_ | ((first | refine Wo fun K hK => ?_ | refine Wp ?_ | refine Wq ?_ | refine Wr ?_); (try simp only [go_sem, fN, seval, eT, iR, h, dT, dF, nL]); (repeat refine Ai ?_); (try (refine hK _ ?_; clear hK K)); try refine iC ?_)) | refine Cg _ (DB R) ?_ | refine Cg _ (Dy t) ?_)
  simp only [go_sem, fN, seval, AK, AS.result, AB, AD, AI]
  rw [hm]
 ·rw [if_neg h] at hm
  repeat' (first | (with_reducible first | refine W ?_ | refine Z0 ?_ | ((first | refine Wo fun K hK => ?_ | refine Wp ?_ | refine Wq ?_ | refine Wr ?_); (try simp only [go_sem, fN, seval, eT, iR, h, dT, dF, nL]); (repeat refine Ai ?_); (try (refine hK _ ?_; clear hK K)); try refine iC ?_)) | refine Cg _ (DB R) ?_ | refine Cg _ (Dy t) ?_)
  simp only [go_sem, fN, seval, AK, AS.result, AB, AD, AI]
  rw [hm]
def Bi (m : Int) : Int := if m < 0 ∨ 400 < m then 10 else 0
theorem GZ (m : Int) : AN Tryz.prog 68 [AO m] (AO (Bi m)) := by
 have hm : Bi m = if m < 0 ∨ 400 < m then 10 else 0 := rfl
 refine Ix.ac fun C hC => ?_
 unfold FA
 by_cases h1 : m < 0
 ·repeat' with_reducible first | refine W ?_ | refine Z0 ?_ | ((first | refine Wo fun K hK => ?_ | refine Wp ?_ | refine Wq ?_ | refine Wr ?_); (try simp only [go_sem, fN, seval, eT, iR, h1, dT, dF, nL]); (repeat refine Ai ?_); (try (refine hK _ ?_; clear hK K)); try refine iC ?_)
  simp only [go_sem, fN, seval, AK, AS.result, AB, AD, AI]
  rw [hm, if_pos (.inl h1)]
 ·by_cases h2 : 400 < m
  ·repeat' with_reducible first | refine W ?_ | refine Z0 ?_ | ((first | refine Wo fun K hK => ?_ | refine Wp ?_ | refine Wq ?_ | refine Wr ?_); (try simp only [go_sem, fN, seval, eT, iR, h1, h2, dT, dF, nL]); (repeat refine Ai ?_); (try (refine hK _ ?_; clear hK K)); try refine iC ?_)
   simp only [go_sem, fN, seval, AK, AS.result, AB, AD, AI]
   rw [hm, if_pos (.inr h2)]
  ·repeat' with_reducible first | refine W ?_ | refine Z0 ?_ | ((first | refine Wo fun K hK => ?_ | refine Wp ?_ | refine Wq ?_ | refine Wr ?_); (try simp only [go_sem, fN, seval, eT, iR, h1, h2, dT, dF, nL]); (repeat refine Ai ?_); (try (refine hK _ ?_; clear hK K)); try refine iC ?_)
   simp only [go_sem, fN, seval, AK, AS.result, AB, AD, AI]
   rw [hm, if_neg (by omega)]
theorem Ah (R : List Pr) : AN Tryz.prog 7 [Bg R] (AO (A3 R)) := by
 have hm : A3 R = if 40 < R.length then 3 else Dp Da R := rfl
 refine Kt.ac fun C hC => ?_
 unfold GH
 by_cases h40 : (40 : Int) < R.length
 ·repeat' with_reducible first | refine W ?_ | refine Z0 ?_ | ((first | refine Wo fun K hK => ?_ | refine Wp ?_ | refine Wq ?_ | refine Wr ?_); (try simp only [go_sem, fN, seval, eT, iR, h40, dT, dF, nL]); (repeat refine Ai ?_); (try (refine hK _ ?_; clear hK K)); try refine iC ?_)
  simp only [go_sem, fN, seval, AK, AS.result, AB, AD, AI]
  rw [hm, if_pos (by omega)]
 rw [if_neg (by omega)] at hm
 repeat' with_reducible first | refine W ?_ | refine Z0 ?_ | ((first | refine Wo fun K hK => ?_ | refine Wp ?_ | refine Wq ?_ | refine Wr ?_); (try simp only [go_sem, fN, seval, eT, iR, h40, dT, dF, nL]); (repeat refine Ai ?_); (try (refine hK _ ?_; clear hK K)); try refine iC ?_)
 refine IWP.loop (fun m s => ∃ k, k ≤ R.length ∧ m = R.length - k ∧ Dp Da (R.take k) = 0 ∧ s.env 0 = Bg R ∧ s.env 3 = AO k) R.length ⟨0, Nat.zero_le _, rfl, rfl, rfl, rfl⟩ ?_
 rintro m ⟨env, S⟩ ⟨k, hk, rfl, h0, e0, e3⟩
 simp only at e0 e3
 by_cases hlt : (k : Int) < R.length
 ·obtain ⟨r, hr⟩ := Af (show k < R.length by omega)
  obtain ⟨g1, g2⟩ := Nu hr h0
  have re : Da r = if Bx r.1 r.2 = 0 then (if A0 r.1.name = true then 2 else if GV r = true then 15 else 0) else Bx r.1 r.2 := rfl
  by_cases hz : Bx r.1 r.2 = 0
  case neg =>
   repeat' (first | (with_reducible first | refine W ?_ | refine Z0 ?_ | ((first | refine Wo fun K hK => ?_ | refine Wp ?_ | refine Wq ?_ | refine Wr ?_); (try simp only [go_sem, fN, seval, eT, iR, e0, e3, hlt, hr, CR, hz, dT, dF, nL]); (repeat refine Ai ?_); (try (refine hK _ ?_; clear hK K)); try refine iC ?_)) | refine Cg _ (BK r.1 r.2) ?_)
   simp only [go_sem, fN, seval, AK, AS.result, AB, AD, AI]
   rw [if_neg hz] at re
   rw [hm, g2 (by rw [re]; exact hz), re]
  case pos =>
  rw [if_pos hz] at re
  by_cases hv : A0 r.1.name = true
  ·repeat' (first | (with_reducible first | refine W ?_ | refine Z0 ?_ | ((first | refine Wo fun K hK => ?_ | refine Wp ?_ | refine Wq ?_ | refine Wr ?_); (try simp only [go_sem, fN, seval, eT, iR, e0, e3, hlt, hr, CR, hz, hv, dT, dF, nL]); (repeat refine Ai ?_); (try (refine hK _ ?_; clear hK K)); try refine iC ?_)) | refine Cg _ (BK r.1 r.2) ?_ | refine Cg _ (E4 r.1.name) ?_)
   simp only [go_sem, fN, seval, AK, AS.result, AB, AD, AI]
   rw [if_pos hv] at re
   rw [hm, g2 (by rw [re]; decide), re]
  rw [if_neg hv] at re
  have m12 : r.1.may = 0 ∧ r.2.may = 0 := by
   unfold Bx at hz
   by_cases h4 : r.1.may = 0
   ·rw [if_pos h4] at hz; exact ⟨h4, hz⟩
   ·rw [if_neg h4] at hz; exact absurd hz h4
  have z1 := (Tm.may_chk m12.1).2
  have z2 := (Tm.may_chk m12.2).2
  have l2 := Ja r.2 z2
  repeat' (first | (with_reducible first | refine W ?_ | refine Z0 ?_ | ((first | refine Wo fun K hK => ?_ | refine Wp ?_ | refine Wq ?_ | refine Wr ?_); (try simp only [go_sem, fN, seval, eT, iR, e0, e3, hlt, hr, CR, hz, hv, dT, dF, nL]); (repeat refine Ai ?_); (try (refine hK _ ?_; clear hK K)); try refine iC ?_)) | refine Cg _ (BK r.1 r.2) ?_ | refine Cg _ (E4 r.1.name) ?_ | refine Cg _ (Of r.1 (by omega)) ?_ | refine Cg _ (Of r.2 (by omega)) ?_)
  have ho : GV r = r.2.varsOf.any fun v => !CQ v r.1.varsOf := rfl
  refine IWP.loop (fun m s => ∃ i, i ≤ r.2.varsOf.length ∧ m = r.2.varsOf.length - i ∧ (r.2.varsOf.take i).any (fun v => !CQ v r.1.varsOf) = false ∧ s.env 0 = Bg R ∧ s.env 3 = AO k ∧ s.env 5 = B3 r.1.varsOf ∧ s.env 6 = B3 r.2.varsOf ∧ s.env 7 = AO i) r.2.varsOf.length ⟨0, Nat.zero_le _, rfl, rfl, ?_⟩ ?_
  ·simp only [go_sem, fN, seval, eT, iR, e0, e3]
  rintro m ⟨env, S⟩ ⟨i, hi, rfl, hany, e0, e3, e5, e6, e7⟩
  simp only at e0 e3 e5 e6 e7
  by_cases hli : (i : Int) < r.2.varsOf.length
  ·obtain ⟨v, hvi⟩ := Af (show i < r.2.varsOf.length by omega)
   by_cases hin : CQ v r.1.varsOf = true
   ·repeat' (first | (with_reducible first | refine W ?_ | refine Z0 ?_ | ((first | refine Wo fun K hK => ?_ | refine Wp ?_ | refine Wq ?_ | refine Wr ?_); (try simp only [go_sem, fN, seval, eT, iR, e0, e3, e5, e6, e7, hli, hvi, hin, dT, dF, nL]); (repeat refine Ai ?_); (try (refine hK _ ?_; clear hK K)); try refine iC ?_)) | refine Cg _ (Ue v r.1.varsOf) ?_)
    refine AF ⟨r.2.varsOf.length - (i + 1), by omega, i + 1, by omega, rfl, ?_, ?_⟩
    ·rw [Lh hvi hany, hin]
     rfl
    ·simp only [go_sem, fN, seval, eT, iR, e0, e3, e5, e6, e7]
     congr 3
   ·have hop : GV r = true := by
     rw [ho, List.any_eq_true]
     exact ⟨v, AP hvi, by simpa using hin⟩
    repeat' (first | (with_reducible first | refine W ?_ | refine Z0 ?_ | ((first | refine Wo fun K hK => ?_ | refine Wp ?_ | refine Wq ?_ | refine Wr ?_); (try simp only [go_sem, fN, seval, eT, iR, e0, e3, e5, e6, e7, hli, hvi, hin, dT, dF, nL]); (repeat refine Ai ?_); (try (refine hK _ ?_; clear hK K)); try refine iC ?_)) | refine Cg _ (Ue v r.1.varsOf) ?_)
    simp only [go_sem, fN, seval, AK, AS.result, AB, AD, AI]
    rw [if_pos hop] at re
    rw [hm, g2 (by rw [re]; decide), re]
  ·rw [List.take_of_length_le (by omega), ← ho] at hany
   rw [if_neg (by rw [hany]; decide)] at re
   repeat' with_reducible first | refine W ?_ | refine Z0 ?_ | ((first | refine Wo fun K hK => ?_ | refine Wp ?_ | refine Wq ?_ | refine Wr ?_); (try simp only [go_sem, fN, seval, eT, iR, e0, e3, e5, e6, e7, hli, dT, dF, nL]); (repeat refine Ai ?_); (try (refine hK _ ?_; clear hK K)); try refine iC ?_)
   refine AF ⟨R.length - (k + 1), by omega, k + 1, by omega, rfl, g1 re, ?_⟩
   simp only [go_sem, fN, seval, eT, iR, e0, e3]
   congr 3
 ·repeat' with_reducible first | refine W ?_ | refine Z0 ?_ | ((first | refine Wo fun K hK => ?_ | refine Wp ?_ | refine Wq ?_ | refine Wr ?_); (try simp only [go_sem, fN, seval, eT, iR, e0, e3, hlt, dT, dF, nL]); (repeat refine Ai ?_); (try (refine hK _ ?_; clear hK K)); try refine iC ?_)
  simp only [go_sem, fN, seval, AK, AS.result, AB, AD, AI]
  rw [List.take_of_length_le (by omega)] at h0
  rw [hm, h0]

def A2 : IR :=
 (.seq (.ops [.i 2 (.mov (.c (.one (.full []))))]) (.seq (.seq (.ops [.m 3 0, .i 4 (.eqN false (.t 3))]) (.cond (.t 4) (.seq (.ops [.i 2 (.mov (.c (.one (.full []))))]) .ret) .skip)) (.seq (.ops [.i 5 (.buildSlice false 25 2 []), .m 6 0, .i 7 (.append true 25 2 40 (.t 5) (.t 6)), .m 2 7]) .ret)))
theorem BW : OkF Tryz.prog 98 8 [7] A2 [.t 2] := .of Tryz.func98 rfl rfl (by kernel_rfl) rfl

def GG : IR :=
 (.seq (.ops [.i 3 (.box 25 (.t 0)), .i 4 (.box 25 (.t 1)), .i 6 (.mov (.c (.one (.st (.bool false)))))]) (.seq (.seq (.ops [.f 10 0 3, .l 11 10, .i 12 (.call 62 [.t 11])]) (.cond (.t 12) (.seq (.seq (.ops [.m 14 2, .f 15 0 3, .l 16 15, .i 17 (.lookup none true (.agg [.st (.str (ByteArray.mk (#[]))), .full []]) (.t 14) (.t 16)), .m 13 17, .i 18 (.extract 0 (.t 13)), .i 19 (.extract 1 (.t 13)), .i 7 (.alloc 25 [.st (.str (ByteArray.mk (#[]))), .full []]), .s 2 7 18, .m 8 19]) (.seq (.ops [.m 20 8]) (.cond (.t 20) (.seq (.ops [.L 21 2 7, .L 22 2 4, .i 23 (.call 99 [.t 21, .t 22]), .m 6 23]) .ret) .skip))) (.seq (.ops [.m 24 2, .f 25 0 3, .l 26 25, .L 27 2 4, .mk none none (.mapSet none (.t 24) (.t 26) (.t 27)) .no]) (.seq (.ops [.i 6 (.mov (.c (.one (.st (.bool true)))))]) .ret))) .skip)) (.seq (.seq (.ops [.f 28 0 3, .l 29 28, .f 30 0 4, .l 31 30, .i 32 (.bin .neq (.t 29) (.t 31)), .m 33 32, .mk (some 34) (some (33, false)) (.fieldAddr 1 (.t 3)) .no, .mk (some 35) (some (33, false)) (.load false 1 (.t 34)) .no, .mk (some 36) (some (33, false)) (.len false (.t 35)) .no, .mk (some 37) (some (33, false)) (.fieldAddr 1 (.t 4)) .no, .mk (some 38) (some (33, false)) (.load false 1 (.t 37)) .no, .mk (some 39) (some (33, false)) (.len false (.t 38)) .no, .mk (some 40) (some (33, false)) (.bin .neq (.t 36) (.t 39)) .no, .i 41 (.pick (.t 33) (.c (.one (.st (.bool true)))) (.t 40))]) (.cond (.t 41) (.seq (.ops [.i 6 (.mov (.c (.one (.st (.bool false)))))]) .ret) .skip)) (.seq (.seq (.ops [.f 42 1 3, .l 43 42, .i 44 (.len false (.t 43)), .i 45 (.mov (.n 0))]) (.block 0 (.loop (.seq (.ops [.i 46 (.bin .lss (.t 45) (.t 44))]) (.seq (.cond (.t 46) .skip (.exit 0)) (.seq (.block 1 (.seq (.ops [.m 47 45, .m 9 47]) (.seq (.ops [.f 48 1 3, .l 49 48, .m 50 9, .i 51 (.indexAddr 2 (.t 49) (.t 50)), .L 52 2 51, .f 53 1 4, .l 54 53, .m 55 9, .i 56 (.indexAddr 2 (.t 54) (.t 55)), .L 57 2 56, .m 58 2, .i 59 (.callS 107 [.t 52, .t 57, .t 58]), .i 60 (.un .not (.t 59))]) (.cond (.t 60) (.seq (.ops [.i 6 (.mov (.c (.one (.st (.bool false)))))]) .ret) .skip)))) (.ops [.i 61 (.bin .add (.t 45) (.n 1)), .m 45 61]))))))) (.seq (.ops [.i 6 (.mov (.c (.one (.st (.bool true)))))]) .ret)))))
theorem K0 : OkF Tryz.prog 107 62 [59] GG [.t 6] := .of Tryz.func107 rfl rfl (by kernel_rfl) rfl
def GL : IR :=
 (.seq (.ops [.i 2 (.box 25 (.t 0)), .i 3 (.box 25 (.t 1)), .i 4 (.mov (.c (.one (.full [])))), .i 5 (.mov (.c (.one (.st (.bool false)))))]) (.seq (.ops [.i 10 (.makeMap none), .m 6 10]) (.seq (.seq (.ops [.L 11 2 2, .L 12 2 3, .m 13 6, .i 14 (.callS 107 [.t 11, .t 12, .t 13]), .i 15 (.un .not (.t 14))]) (.cond (.t 15) (.seq (.ops [.i 4 (.mov (.c (.one (.full [])))), .i 5 (.mov (.c (.one (.st (.bool false)))))]) .ret) .skip)) (.seq (.ops [.i 7 (.mov (.c (.one (.full []))))]) (.seq (.seq (.ops [.m 16 6, .i 17 (.rangeM (.t 16))]) (.block 0 (.loop (.seq (.ops [.i 18 (.next (.t 17)), .i 19 (.extract 0 (.t 18))]) (.seq (.cond (.t 19) .skip (.exit 0)) (.block 1 (.seq (.ops [.i 20 (.entry (.t 17)), .i 21 (.extract 0 (.t 20)), .i 22 (.extract 1 (.t 20)), .i 9 (.alloc 25 [.st (.str (ByteArray.mk (#[]))), .full []]), .m 8 21, .s 2 9 22]) (.ops [.m 23 7, .m 24 8, .L 25 2 9, .i 26 (.call 55 [.t 25]), .i 27 (.build [.st (.str (ByteArray.mk (#[]))), .st (.str (ByteArray.mk (#[]))), .full []] [(0, 1, .t 24), (1, 2, .t 26)]), .i 28 (.buildSlice false 138 3 [.t 27]), .i 29 (.append true 138 3 56 (.t 23) (.t 28)), .m 7 29])))))))) (.seq (.ops [.m 30 7, .i 31 (.callS 108 [.t 30]), .m 4 31, .i 5 (.mov (.c (.one (.st (.bool true)))))]) .ret))))))
theorem Ka : OkF Tryz.prog 80 32 [14, 29, 31] GL [.t 4, .t 5] := .of Tryz.func80 rfl rfl (by kernel_rfl) rfl
def Em : IR :=
 (.seq (.ops [.i 3 (.box 25 (.t 0)), .i 4 (.box 25 (.t 1)), .i 6 (.mov (.c (.one (.full [])))), .i 7 (.mov (.c (.one (.st (.bool false)))))]) (.seq (.seq (.ops [.f 13 0 3, .l 14 13, .i 15 (.call 19 [.t 14])]) (.cond (.t 15) (.seq (.ops [.m 17 2, .f 18 0 3, .l 19 18, .i 20 (.call 117 [.t 17, .t 19]), .m 16 20, .i 21 (.extract 0 (.t 16)), .i 22 (.extract 1 (.t 16)), .i 8 (.alloc 25 [.st (.str (ByteArray.mk (#[]))), .full []]), .s 2 8 21, .m 9 22]) (.seq (.seq (.ops [.m 23 9]) (.cond (.t 23) (.seq (.ops [.m 24 2, .L 25 2 8, .L 26 2 4, .i 27 (.call 36 [.t 25, .t 26]), .m 6 24, .m 7 27]) .ret) .skip)) (.seq (.ops [.m 28 2, .f 29 0 3, .l 30 29, .L 31 2 4, .i 32 (.build [.st (.str (ByteArray.mk (#[]))), .st (.str (ByteArray.mk (#[]))), .full []] [(0, 1, .t 30), (1, 2, .t 31)]), .i 33 (.buildSlice false 138 3 [.t 32]), .i 34 (.append false 138 3 56 (.t 28) (.t 33)), .m 6 34, .i 7 (.mov (.c (.one (.st (.bool true)))))]) .ret))) .skip)) (.seq (.seq (.ops [.f 35 0 3, .l 36 35, .f 37 0 4, .l 38 37, .i 39 (.bin .neq (.t 36) (.t 38)), .m 40 39, .mk (some 41) (some (40, false)) (.fieldAddr 1 (.t 3)) .no, .mk (some 42) (some (40, false)) (.load false 1 (.t 41)) .no, .mk (some 43) (some (40, false)) (.len false (.t 42)) .no, .mk (some 44) (some (40, false)) (.fieldAddr 1 (.t 4)) .no, .mk (some 45) (some (40, false)) (.load false 1 (.t 44)) .no, .mk (some 46) (some (40, false)) (.len false (.t 45)) .no, .mk (some 47) (some (40, false)) (.bin .neq (.t 43) (.t 46)) .no, .i 48 (.pick (.t 40) (.c (.one (.st (.bool true)))) (.t 47))]) (.cond (.t 48) (.seq (.ops [.i 6 (.mov (.c (.one (.full [])))), .i 7 (.mov (.c (.one (.st (.bool false)))))]) .ret) .skip)) (.seq (.seq (.ops [.i 10 (.mov (.n 0))]) (.block 0 (.loop (.seq (.seq (.ops [.m 49 10, .f 50 1 3, .l 51 50, .i 52 (.len false (.t 51)), .i 53 (.bin .lss (.t 49) (.t 52))]) (.cond (.t 53) .skip (.exit 0))) (.seq (.block 1 (.seq (.ops [.f 57 1 3, .l 58 57, .m 59 10, .i 60 (.indexAddr 2 (.t 58) (.t 59)), .L 61 2 60, .f 62 1 4, .l 63 62, .m 64 10, .i 65 (.indexAddr 2 (.t 63) (.t 64)), .L 66 2 65, .m 67 2, .i 68 (.callS 100 [.t 61, .t 66, .t 67]), .m 56 68, .i 69 (.extract 0 (.t 56)), .i 70 (.extract 1 (.t 56)), .m 11 69, .m 12 70]) (.seq (.seq (.ops [.m 71 12, .i 72 (.un .not (.t 71))]) (.cond (.t 72) (.seq (.ops [.i 6 (.mov (.c (.one (.full [])))), .i 7 (.mov (.c (.one (.st (.bool false)))))]) .ret) .skip)) (.ops [.m 73 11, .m 2 73])))) (.ops [.m 54 10, .i 55 (.bin .add (.t 54) (.n 1)), .m 10 55])))))) (.seq (.ops [.m 74 2, .m 6 74, .i 7 (.mov (.c (.one (.st (.bool true)))))]) .ret)))))
theorem G_ : OkF Tryz.prog 100 75 [68] Em [.t 6, .t 7] := .of Tryz.func100 rfl rfl (by kernel_rfl) rfl
def HA : IR :=
 (.seq (.ops [.i 2 (.box 25 (.t 0)), .i 3 (.box 25 (.t 1)), .i 4 (.mov (.c (.one (.full [])))), .i 5 (.mov (.c (.one (.st (.bool false)))))]) (.seq (.ops [.L 9 2 2, .L 10 2 3, .i 11 (.callS 100 [.t 9, .t 10, .c (.one (.full []))]), .m 8 11, .i 12 (.extract 0 (.t 8)), .i 13 (.extract 1 (.t 8)), .m 6 12, .m 7 13]) (.seq (.seq (.ops [.m 14 7, .i 15 (.un .not (.t 14))]) (.cond (.t 15) (.seq (.ops [.i 4 (.mov (.c (.one (.full [])))), .i 5 (.mov (.c (.one (.st (.bool false)))))]) .ret) .skip)) (.seq (.ops [.m 16 6, .i 17 (.call 101 [.t 16]), .m 4 17, .i 5 (.mov (.c (.one (.st (.bool true)))))]) .ret))))
theorem Mu : OkF Tryz.prog 72 18 [11] HA [.t 4, .t 5] := .of Tryz.func72 rfl rfl (by kernel_rfl) rfl

def met {α : Type} (l : List α) (seen : List Nat) : List α := seen.filterMap fun j => l[j]?
theorem OH {α : Type} {l : List α} {seen : List Nat} {j : Nat} {b : α} (h : l[j]? = some b) : met l (seen ++ [j]) = met l seen ++ [b] := by
 unfold met
 rw [List.filterMap_append, List.filterMap_cons_some h]
 rfl
theorem MX {α : Type} {l : List α} : ∀ {seen : List Nat}, (∀ j ∈ seen, j < l.length) → (met l seen).length = seen.length
 | [], _ => rfl
 | j :: seen, h => by
  have hj := h j (by simp)
  unfold met
  rw [List.filterMap_cons_some (List.getElem?_eq_getElem hj), List.length_cons, List.length_cons]
  exact congrArg (· + 1) (MX fun i hi => h i (by simp [hi]))
theorem HL {n : Nat} {seen : List Nat} (hn : seen.Nodup) (h : ∀ j ∈ seen, j < n) : seen.length ≤ n := by
 have h1 : seen.Perm ((List.range n).filter fun j => decide (j ∈ seen)) := (List.perm_ext_iff_of_nodup hn (List.nodup_range.filter _)).2 fun j => by
  rw [List.mem_filter, List.mem_range, decide_eq_true_eq]
  exact ⟨fun hj => ⟨h j hj, hj⟩, fun hj => hj.2⟩
 rw [h1.length_eq]
 exact Nat.le_trans (List.length_filter_le _ _) (Nat.le_of_eq List.length_range)
theorem ND {α : Type} {l : List α} {seen : List Nat} (hn : seen.Nodup) (h : ∀ j ∈ seen, j < l.length) (hall : ∀ j, j < l.length → j ∈ seen) : (met l seen).Perm l := by
 have hp : seen.Perm (List.range l.length) := (List.perm_ext_iff_of_nodup hn List.nodup_range).2 fun j => ⟨fun hj => List.mem_range.2 (h j hj), fun hj => hall j (List.mem_range.1 hj)⟩
 have := hp.filterMap fun j => l[j]?
 rw [DV] at this
 exact this

open Go.Proofs Go.Shelf
def Tryz.sortBd_ren : Go.Shelf.Ren := ⟨fun | 6 => 120 | 15 => 57 | 14 => 125 | 28 => 91 | 29 => 92 | 20 => 128 | 21 => 129 | 22 => 130 | 23 => 131 | 24 => 132 | 25 => 133 | 26 => 134 | 27 => 135 | 46 => 136 | 47 => 111 | 48 => 112 | 49 => 137 | 50 => 138 | 57 => 139 | n => n, fun | 22 => 102 | 24 => 138 | 25 => 155 | 3 => 3 | 39 => 90 | 0 => 0 | 53 => 124 | 55 => 126 | 4 => 4 | 46 => 116 | 45 => 115 | 50 => 121 | 5 => 5 | 9 => 9 | 66 => 143 | 70 => 147 | 76 => 156 | 77 => 157 | n => n, fun | n => n⟩
theorem Tryz.sortBd : Go.Proofs.SlLaysF0.n6 Tryz.prog Tryz.sortBd_ren := {
 mixed := by kernel_rfl
 f6 := ⟨Tryz.f120.name, by decide, Tryz.func120.trans (congrArg some (by kernel_rfl))⟩
 f14 := ⟨Tryz.f125.name, by decide, Tryz.func125.trans (congrArg some (by kernel_rfl))⟩
 f15 := Tryz.func57.trans (congrArg some (by kernel_rfl))
 f20 := ⟨Tryz.f128.name, by decide, Tryz.func128.trans (congrArg some (by kernel_rfl))⟩
 f21 := ⟨Tryz.f129.name, by decide, Tryz.func129.trans (congrArg some (by kernel_rfl))⟩
 f22 := ⟨Tryz.f130.name, by decide, Tryz.func130.trans (congrArg some (by kernel_rfl))⟩
 f23 := ⟨Tryz.f131.name, by decide, Tryz.func131.trans (congrArg some (by kernel_rfl))⟩
 f24 := ⟨Tryz.f132.name, by decide, Tryz.func132.trans (congrArg some (by kernel_rfl))⟩
 f25 := ⟨Tryz.f133.name, by decide, Tryz.func133.trans (congrArg some (by kernel_rfl))⟩
 f26 := ⟨Tryz.f134.name, by decide, Tryz.func134.trans (congrArg some (by kernel_rfl))⟩
 f27 := ⟨Tryz.f135.name, by decide, Tryz.func135.trans (congrArg some (by kernel_rfl))⟩
 f28 := Tryz.func91.trans (congrArg some (by kernel_rfl))
 f29 := Tryz.func92.trans (congrArg some (by kernel_rfl))
 f46 := ⟨Tryz.f136.name, by decide, Tryz.func136.trans (congrArg some (by kernel_rfl))⟩
 f47 := Tryz.func111.trans (congrArg some (by kernel_rfl))
 f48 := Tryz.func112.trans (congrArg some (by kernel_rfl))
 f49 := ⟨Tryz.f137.name, by decide, Tryz.func137.trans (congrArg some (by kernel_rfl))⟩
 f50 := ⟨Tryz.f138.name, by decide, Tryz.func138.trans (congrArg some (by kernel_rfl))⟩
 f57 := ⟨Tryz.f139.name, by decide, Tryz.func139.trans (congrArg some (by kernel_rfl))⟩
 t0 := Tryz.underlying0
 a0 := Tryz.isAgg0
 z0 := Tryz.sizeOf0
 v0 := Tryz.zeroValue0
 t3 := Tryz.underlying3
 a3 := Tryz.isAgg3
 z3 := Tryz.sizeOf3
 v3 := Tryz.zeroValue3
 t4 := Tryz.underlying4
 a4 := Tryz.isAgg4
 z4 := Tryz.sizeOf4
 v4 := Tryz.zeroValue4
 t5 := Tryz.underlying5
 a5 := Tryz.isAgg5
 z5 := Tryz.sizeOf5
 v5 := Tryz.zeroValue5
 t9 := Tryz.underlying9
 a9 := Tryz.isAgg9
 z9 := Tryz.sizeOf9
 v9 := Tryz.zeroValue9
 t22 := Tryz.underlying102
 a22 := Tryz.isAgg102
 z22 := Tryz.sizeOf102
 v22 := Tryz.zeroValue102
 t25 := Tryz.underlying155
 a25 := Tryz.isAgg155
 z25 := Tryz.sizeOf155
 v25 := Tryz.zeroValue155
 t39 := Tryz.underlying90
 a39 := Tryz.isAgg90
 z39 := Tryz.sizeOf90
 v39 := Tryz.zeroValue90
 t45 := Tryz.underlying115
 a45 := Tryz.isAgg115
 z45 := Tryz.sizeOf115
 v45 := Tryz.zeroValue115
 t46 := Tryz.underlying116
 a46 := Tryz.isAgg116
 z46 := Tryz.sizeOf116
 v46 := Tryz.zeroValue116
 t50 := Tryz.underlying121
 a50 := Tryz.isAgg121
 z50 := Tryz.sizeOf121
 v50 := Tryz.zeroValue121
 t53 := Tryz.underlying124
 a53 := Tryz.isAgg124
 z53 := Tryz.sizeOf124
 v53 := Tryz.zeroValue124
 t55 := Tryz.underlying126
 a55 := Tryz.isAgg126
 z55 := Tryz.sizeOf126
 v55 := Tryz.zeroValue126
 t66 := Tryz.underlying143
 a66 := Tryz.isAgg143
 z66 := Tryz.sizeOf143
 v66 := Tryz.zeroValue143
 t70 := Tryz.underlying147
 a70 := Tryz.isAgg147
 z70 := Tryz.sizeOf147
 v70 := Tryz.zeroValue147
 t76 := Tryz.underlying156
 a76 := Tryz.isAgg156
 z76 := Tryz.sizeOf156
 v76 := Tryz.zeroValue156
 t77 := Tryz.underlying157
 a77 := Tryz.isAgg157
 z77 := Tryz.sizeOf157
 v77 := Tryz.zeroValue157 }

abbrev FC (l : List Bd) : AL := .mrow 138 3 (l.map CS)

def Ff : IR :=
 (.seq (.ops [.i 2 (.mov (.c (.one (.full []))))]) (.seq (.ops [.m 3 0, .i 4 (.callS 120 [.t 3, .c (.one (.fn 121 []))])]) (.seq (.ops [.m 5 0, .m 2 5]) .ret)))
theorem J_ : OkF Tryz.prog 108 6 [4] Ff [.t 2] := .of Tryz.func108 rfl rfl (by kernel_rfl) rfl

open Go.Lib Go.Sort
theorem Tp {P : Program} {w : World} (t : TypeId) (x y : ByteArray) : (binOp .gtr t (.string x) (.string y)).run P w = .ok (.bool (!(sLt x y || decide (x = y)))) w := by
 simp only [binOp, Op.stringOp, Ca]
 rfl
attribute [go_sem] Tp
theorem UI (s : ByteArray) (W : World) : Calls Tryz.prog 115 #[.string s] W fun e w' => e = .returned (.bool false) ∧ w' = W := by
 go_enter Tryz.func115, Tryz.ntmps115
 go_wp2_with fail
 go_ret
 exact ⟨rfl, rfl⟩
theorem Q4 (a b : ByteArray) (W : World) : Calls Tryz.prog 122 #[.string a, .string b] W fun e w' => e = .returned (.int .i64 (Fh a b)) ∧ w' = W := by
 have h1 := UI
 have hl : sLt a b = Op.bytesLess a.toList b.toList := rfl
 have hc : Fh a b = if sLt a b = true then -1 else if a = b then 0 else 1 := rfl
 generalize Fh a b = r at hc ⊢
 go_enter Tryz.func122, Tryz.ntmps122
 go_wp2_with (go_at_call 115; refine (h1 _ _).mono ?_; rintro e w' ⟨rfl, rfl⟩)
 all_goals go_ret
 all_goals refine ⟨?_, rfl⟩
 all_goals simp_all
abbrev D9 := ByteArray × ByteArray × Option Addr × Nat × Nat
def CD (x : D9) : List Value := [.string x.1, .string x.2.1, .slice x.2.2.1 x.2.2.2.1 x.2.2.2.2]
theorem Tn (x y : D9) (W : World) : Calls Tryz.prog 121 #[.agg (CD x).toArray, .agg (CD y).toArray] W fun e w' => e = .returned (.int .i64 (Fh x.1 y.1)) ∧ ∃ q os', w' = grow (W.drewN q) os' := by
 have hcon := fun W' => Q4 x.1 y.1 W'
 generalize Fh x.1 y.1 = r at hcon ⊢
 unfold CD
 go_enter Tryz.func121, Tryz.ntmps121
 go_wp2_with (go_at_call 122; refine (hcon _).mono ?_; rintro e w' ⟨rfl, rfl⟩)
 go_ret
 exact ⟨rfl, 0, _, by rw [alloc_eq_grow, alloc_eq_grow, grow_grow]; rfl⟩
theorem RC : SWO (ltOf fun x y : D9 => Fh x.1 y.1) where
 irrefl x := by
  simp only [ltOf, decide_eq_false_iff_not]
  intro h
  have := Cb.1 h
  rw [Cf] at this
  cases this
 trans x y z h k := by
  simp only [ltOf, decide_eq_true_eq] at *
  exact Cb.2 (CL (Cb.1 h) (Cb.1 k))
 ntrans x y z h k := by
  simp only [ltOf, decide_eq_false_iff_not] at *
  intro e
  have e := Cb.1 e
  have h : sLt x.1 y.1 = false := by
   cases hx : sLt x.1 y.1 with
   | false => rfl
   | true => exact absurd (Cb.2 hx) h
  have k : sLt y.1 z.1 = false := by
   cases hx : sLt y.1 z.1 with
   | false => rfl
   | true => exact absurd (Cb.2 hx) k
  rcases Dc y.1 z.1 with q | q | q
  ·rw [q] at k; cases k
  ·rw [q] at h; rw [e] at h; cases h
  ·have := CL e q
   rw [this] at h
   cases h
def TA (σ : Sto) (x : D9) (b : Bd) : Prop := x.1 = b.1 ∧ Ag (Ay σ) (CD x) (CS b)
theorem RG {α β : Type} {R : α → β → Prop} {l1 l2 : List α} (hp : l1.Perm l2) : ∀ {m1 : List β}, Ag R l1 m1 → ∃ m2, Ag R l2 m2 ∧ m1.Perm m2 := by
 induction hp with
 | nil => intro m1 h; exact ⟨m1, h, List.Perm.refl _⟩
 | cons x _ ih =>
  intro m1 h
  cases h with
  | cons h1 h2 =>
   obtain ⟨m2, q1, q2⟩ := ih h2
   exact ⟨_ :: m2, .cons h1 q1, q2.cons _⟩
 | swap x y l =>
  intro m1 h
  cases h with
  | cons h1 h2 =>
   cases h2 with
   | cons h2 h3 => exact ⟨_, .cons h2 (.cons h1 h3), List.Perm.swap _ _ _⟩
 | trans _ _ ih1 ih2 =>
  intro m1 h
  obtain ⟨m2, q1, q2⟩ := ih1 h
  obtain ⟨m3, q3, q4⟩ := ih2 q1
  exact ⟨m3, q3, q2.trans q4⟩
theorem UB {σ : Sto} {b : Bd} {v1 v2 v3 : Value} (h1 : Ay σ v1 (.str b.1)) (h2 : Ay σ v2 (.str b.2.name)) (h3 : Ay σ v3 (.list (b.2.args.map Al))) : ∃ x : D9, [v1, v2, v3] = CD x ∧ TA σ x b := by
 have e1 := (Cp (S := noS) (ι := noH) (.one (.st h1))).1
 have e2 := (Cp (S := noS) (ι := noH) (.one (.st h2))).1
 obtain ⟨p, cap, e3, _⟩ := B9 h3
 subst e1 e2 e3
 exact ⟨(b.1, b.2.name, p, _, cap), rfl, rfl, .cons h1 (.cons h2 (.cons h3 .nil))⟩
theorem Jw {σ : Sto} {vs : Array Value} : ∀ (l : List Bd) (base : Nat), (∀ k b, l[k]? = some b → ∀ j a, (CS b)[j]? = some a → ∃ v, vs[base + k * 3 + j]? = some v ∧ Ay σ v a) →
  ∃ d : List D9, Ag (TA σ) d l ∧ ∀ k x j v, d[k]? = some x → (CD x)[j]? = some v → vs[base + k * 3 + j]? = some v
 | [], base, _ => ⟨[], .nil, by simp⟩
 | b :: l, base, h => by
  obtain ⟨d, d1, d2⟩ := Jw l (base + 3) (fun k c hc j a ha => by
   obtain ⟨v, v1, v2⟩ := h (k + 1) c (by simpa using hc) j a ha
   exact ⟨v, by rw [← v1]; congr 1; omega, v2⟩)
  obtain ⟨u1, p1, q1⟩ := h 0 b rfl 0 _ rfl
  obtain ⟨u2, p2, q2⟩ := h 0 b rfl 1 _ rfl
  obtain ⟨u3, p3, q3⟩ := h 0 b rfl 2 _ rfl
  obtain ⟨x, x1, x2⟩ := UB q1 q2 q3
  refine ⟨x :: d, .cons x2 d1, fun k y j v hy hv => ?_⟩
  cases k with
  | zero =>
   simp only [List.getElem?_cons_zero, Option.some.injEq] at hy
   subst hy
   rw [← x1] at hv
   match j, hv with
   | 0, hv => cases hv; exact p1
   | 1, hv => cases hv; exact p2
   | 2, hv => cases hv; exact p3
   | j + 3, hv => simp at hv
  | succ k =>
   have := d2 k y j v (by simpa using hy) hv
   rw [← this]
   congr 1
   omega
theorem IQ (x : D9) : (CD x).length = 3 := rfl
theorem OI {d : Array D9} {t : Nat} (h : t < d.size * 3) : ∃ x v, d[t / 3]? = some x ∧ (CD x)[t % 3]? = some v ∧ (flatK CD 3 d)[t]! = v := by
 have hk : t / 3 < d.size := by omega
 have hj : t % 3 < (CD d[t / 3]).length := by rw [IQ]; omega
 refine ⟨d[t / 3], (CD d[t / 3])[t % 3], Array.getElem?_eq_getElem hk, List.getElem?_eq_getElem hj, ?_⟩
 rw [get_flatK _ _ _ _ h, getElem!_pos d (t / 3) hk, getElem!_pos (CD d[t / 3]) (t % 3) hj]
theorem Qy (w : World) (g n : Nat) (d : Array D9) (os : Array Obj) (vs : Array Value) (e : TypeId) (hg : w.heap[g]? = some (.cells vs e (0, 0))) :
  (sortWorldK CD 3 w g 0 n d os).heap[g]? = some (.cells (putCells id 0 (flatK CD 3 d) vs) e (0, 0)) ∧ (∀ k, k < w.heap.size → k ≠ g → (sortWorldK CD 3 w g 0 n d os).heap[k]? = w.heap[k]?) ∧ w.heap.size ≤ (sortWorldK CD 3 w g 0 n d os).heap.size := by
 have hlt := (Array.getElem?_eq_some_iff.1 hg).1
 have hsz : (putRowK CD 3 (Sort.ahead w n) g 0 d).heap.size = w.heap.size := by simp [putRowK, putRow, mapBlock, Sort.ahead]
 refine ⟨?_, fun k hk hne => ?_, ?_⟩
 ·unfold sortWorldK
  rw [heap_grow_old _ _ (by rw [hsz]; exact hlt)]
  simp [putRowK, putRow, mapBlock, Sort.ahead, Array.getElem?_modify, hg, onCells]
 ·unfold sortWorldK
  rw [heap_grow_old _ _ (by rw [hsz]; exact hk)]
  simp [putRowK, putRow, mapBlock, Sort.ahead, Array.getElem?_modify, Ne.symm hne]
 ·unfold sortWorldK
  rw [Go.Sort.size_grow, hsz]
  omega
theorem Tw {d : Array D9} {vs : Array Value} (hs : d.size * 3 ≤ vs.size) {k : Nat} {x : D9} {j : Nat} {v : Value} (hx : d[k]? = some x) (hv : (CD x)[j]? = some v) : (putCells id 0 (flatK CD 3 d) vs)[k * 3 + j]? = some v := by
 have hk := (Array.getElem?_eq_some_iff.1 hx).1
 have hj : j < 3 := by have := (List.getElem?_eq_some_iff.1 hv).1; rw [IQ] at this; exact this
 have hlt : k * 3 + j < d.size * 3 := by omega
 obtain ⟨y, u, h1, h2, h3⟩ := OI hlt
 have e1 : (k * 3 + j) / 3 = k := by omega
 have e2 : (k * 3 + j) % 3 = j := by omega
 rw [e1, hx] at h1
 cases h1
 rw [e2, hv] at h2
 cases h2
 unfold putCells
 rw [Array.getElem?_mapIdx, Array.getElem?_eq_getElem (by omega), Option.map_some, if_pos (by rw [size_flatK]; omega)]
 simp only [Nat.sub_zero, id, h3]
theorem Ry (d : Array D9) (vs : Array Value) : (putCells id 0 (flatK CD 3 d) vs).size = vs.size := by simp [putCells]
theorem TY {S : AA} {r : Nat} {b : AL} (h : S r = some b) : AG S r (some b) = S := by
 funext k
 unfold AG
 split
 ·rename_i e; rw [e, h]
 ·rfl
theorem Rr {d : Array D9} {vs : Array Value} {t : Nat} (h : d.size * 3 ≤ t) : (putCells id 0 (flatK CD 3 d) vs)[t]? = vs[t]? := by
 unfold putCells
 rw [Array.getElem?_mapIdx]
 cases hv : vs[t]? with
 | none => rfl
 | some v => rw [Option.map_some, if_neg (by rw [size_flatK]; omega)]
abbrev FE (l : List Bd) (ys : List (List SV)) : AL := .mrow 138 3 (l.map CS ++ ys)
theorem RU (l : List Bd) (ys : List (List SV)) (hys : ∀ y ∈ ys, y.length = 3) (hn : Ck l) (hl : l.length ≤ 100000) (r : Nat) (hr : 1000 ≤ r) (S : AA) (sr : S r = some (FE l ys)) (hS : Ar S) (σ : Sto) (w : World) (ι : Ax) (hF : Fit σ w) (hO : Dm σ S ι w) :
  Calls Tryz.prog 120 #[.slice (ι r).p l.length (ι r).cap, .func (.func 121) #[] #[]] w fun e w' => ∃ v σ' ι', e = .returned v ∧ Ar (AG S r (some (FE (BR l) ys))) ∧ Upd S ι (AG S r (some (FE (BR l) ys))) ι' ∧ Dm σ' (AG S r (some (FE (BR l) ys))) ι' w' ∧ AR σ' (AG S r (some (FE (BR l) ys))) ι' v (.tup []) ∧ Fit σ' w' ∧ (∀ p x, σ p = some x → σ' p = some x) ∧
   (∀ p : Addr, p.block < w.heap.size → Bz S ι p.block → σ' p = σ p) ∧ (w'.os = w.os ∧ w'.tape = w.tape ∧ w'.output = w.output) ∧ w.heap.size ≤ w'.heap.size ∧
   (∀ g, g < w.heap.size → Bz S ι g → w'.heap[g]? = w.heap[g]?) ∧ (∀ id b g, AG S r (some (FE (BR l) ys)) id = some b → (ι' id).g = some g → w.heap.size ≤ g ∨ ¬ Bz S ι g) := by
 have hS' : Ar (AG S r (some (FE (BR l) ys))) := A9 hS hr rfl
 have hb : Be σ S ι w (ι r) (.mrow 138 3 (l.map CS ++ ys)) := hO.1 r _ sr
 generalize hxs : l.map CS ++ ys = xs at hb
 have hlen : xs.length = l.length + ys.length := by rw [← hxs, List.length_append, List.length_map]
 generalize hh : ι r = hd at hb
 cases hb with
 | mnil k1 k2 =>
  obtain ⟨hl0, hy0⟩ : l = [] ∧ ys = [] := by simpa using hxs
  subst hl0 hy0
  refine (AnyF.slices_SortFunc_none Tryz.sortBd hd.p hd.cap _ w).mono fun e w' ⟨he, hw⟩ => ?_
  subst hw
  have hid : AG S r (some (FE (BR []) [])) = S := TY sr
  rw [hid]
  exact ⟨_, σ, ι, he, hS, Upd.refl _ _, hO, .tup (fun _ => undef) rfl (by simp) (by simp), hF, fun _ _ h => h, fun _ _ _ => rfl, ⟨rfl, rfl, rfl⟩, Nat.le_refl _, fun _ _ _ => rfl, fun id b g h1 h2 => .inr fun hno => hno id b h1 h2⟩
 | @mrow _ _ _ g cs k1 k2 k3 k4 k5 k6 k7 k8 k9 =>
  subst hxs
  obtain ⟨d, d1, d2⟩ := Jw (σ := σ) (vs := cs) l 0 (fun k b hb j a ha => by
   obtain ⟨v, v1, v2⟩ := k8 k (CS b) j a (by rw [List.getElem?_append_left (by rw [List.length_map]; exact Bn hb), List.getElem?_map, hb]; rfl) ha
   exact ⟨v, by rw [Nat.zero_add]; exact v1, v2⟩)
  have dlen : d.length = l.length := d1.len
  have hcap : l.length ≤ hd.cap := by omega
  have hfits : d.toArray.size * 3 ≤ cs.size := by
   rw [k6]
   simp only [List.size_toArray, dlen]
   exact Nat.mul_le_mul_right 3 hcap
  have hH : HoldsK CD 3 w g 0 d.toArray := fun j hj => by
   rw [size_flatK] at hj
   obtain ⟨x, v, q1, q2, q3⟩ := OI hj
   have q1 : d[j / 3]? = some x := by simpa using q1
   have hc := d2 _ _ _ _ q1 q2
   have e : 0 + j / 3 * 3 + j % 3 = j := by omega
   rw [e] at hc
   refine ⟨?_, ?_⟩
   ·rw [cell_of_row w g _ _ _ _ k3, Nat.zero_add, hc, q3]
    rfl
   ·exact Blk.frozen k3 _
  have eg : ∀ args w, (callFunc 121 args).run Tryz.prog w = .ok (.enter 121 args) w := enters_of Tryz.func121 (by kernel_rfl) rfl
  have hgl : g < w.heap.size := (Array.getElem?_eq_some_iff.1 k3).1
  have hcon := AnyQ.slices_SortFunc Tryz.sortBd 3 Tryz.isAgg138 Tryz.sizeOf138 CD IQ (fun x v hv => by simp [CD] at hv; rcases hv with rfl | rfl | rfl <;> rfl) (fun x y : D9 => Fh x.1 y.1) RC 121 #[] g 0 hd.cap d.toArray w eg (fun _ _ _ _ x y => Tn x y _) hH hgl (by simp [dlen]; omega)
  rw [show d.toArray.size = l.length by simp [dlen]] at hcon
  rw [k2, show (l.length) = l.length from rfl]
  refine Calls.mono hcon fun e w' ⟨he, d', n, os, hp, hs, hw⟩ => ?_
  obtain ⟨hp1, hp2, hp3⟩ := hp
  have hd'l : d'.size = l.length := by rw [hp1]; simp [dlen]
  have hperm : d.Perm d'.toList := by
   have e1 : d'.extract 0 l.length = d' := by rw [← hd'l]; exact Array.extract_size
   have e2 : d.toArray.extract 0 l.length = d.toArray := by
    rw [show l.length = d.toArray.size by simp [dlen]]
    exact Array.extract_size
   rw [e1, e2] at hp3
   exact hp3.symm
  obtain ⟨l', l1, l2⟩ := RG hperm d1
  have hl'len : l'.length = l.length := l2.length_eq.symm
  have hord : Bh l' := by
   unfold Bh
   rw [List.pairwise_iff_getElem]
   intro i j hi hj hij
   obtain ⟨x, x1, x2, _⟩ := l1.get (List.getElem?_eq_getElem hi)
   obtain ⟨y, y1, y2, _⟩ := l1.get (List.getElem?_eq_getElem hj)
   have hso := hs i j (Nat.zero_le _) hij (by omega)
   have e1 : d'[i]! = x := by
    rw [Array.getElem?_toList] at x1
    rw [getElem!_def, x1]
   have e2 : d'[j]! = y := by
    rw [Array.getElem?_toList] at y1
    rw [getElem!_def, y1]
   rw [e1, e2] at hso
   simp only [ltOf, decide_eq_false_iff_not] at hso
   have hno : sLt l'[j].1 l'[i].1 = false := by
    cases hx : sLt l'[j].1 l'[i].1 with
    | false => rfl
    | true => exact absurd (Cb.2 (by rw [x2, y2]; exact hx)) hso
   have hdiff : l'[i].1 ≠ l'[j].1 := by
    have hn' := Gw l2 hn
    unfold Ck at hn'
    rw [List.nodup_iff_pairwise_ne, List.pairwise_map, List.pairwise_iff_getElem] at hn'
    exact hn' i j hi hj hij
   rcases Dc l'[i].1 l'[j].1 with q | q | q
   ·exact q
   ·exact absurd q hdiff
   ·rw [q] at hno; cases hno
  have hl' : l' = BR l := Dv hord (CZ hn) ((l2.symm).trans (Dt l).symm)
  subst hl'
  obtain ⟨w1, w2, w3⟩ := Qy w g n d' os cs _ k3
  rw [← hw] at w1 w2 w3
  have hfits' : d'.size * 3 ≤ cs.size := by rw [hd'l]; rw [← dlen]; simpa using hfits
  have hupd : Upd S ι (AG S r (some (FE (BR l) ys))) ι := fun id b hb => by
   by_cases e : id = r
   ·subst e
    rw [sr] at hb
    cases hb
    exact ⟨_, AE _ _ _, by simp [AL.len, Bo], fun _ => ⟨rfl, rfl⟩⟩
   ·exact ⟨b, by rw [AH _ e]; exact hb, Nat.le_refl _, fun _ => ⟨rfl, rfl⟩⟩
  have hotherg : ∀ id b g', id ≠ r → S id = some b → (ι id).g = some g' → g' ≠ g := fun id b g' hne hb hg' e => by
   subst e
   exact hne (hO.2 id r b _ g' hb sr hg' (by rw [hh]; exact k1))
  have hFit : Fit σ w' := fun p x hp => by
   have hlt := hF.lt hp
   by_cases e : p.block = g
   ·rw [k9 p e] at hp; cases hp
   ·exact (By (w2 _ hlt e)).trans (hF p x hp)
  refine ⟨_, σ, ι, he, hS', hupd, ⟨fun id b hb => ?_, fun id id' b b' g' q1 q2 q3 q4 => ?_⟩, .tup (fun _ => undef) rfl (by simp) (by simp), hFit, fun _ _ h => h, fun _ _ _ => rfl, ?_, w3, fun g' q1 q2 => ?_, fun id b g' q1 q2 => ?_⟩
  ·by_cases e : id = r
   ·subst e
    rw [AE] at hb
    cases hb
    rw [hh]
    have hlen' : ((BR l).map CS ++ ys).length = l.length + ys.length := by rw [List.length_append, List.length_map, Bo]
    refine .mrow k1 k2 w1 (by rw [hlen', ← hlen]; exact k4) k5 (by rw [Ry]; exact k6) (fun x hx => ?_) (fun k x j a hx ha => ?_) k9
    ·rcases List.mem_append.1 hx with hx | hx
     ·exact LR x hx
     ·exact hys x hx
    rcases Nat.lt_or_ge k l.length with hk | hk
    ·rw [List.getElem?_append_left (by rw [List.length_map, Bo]; exact hk), List.getElem?_map, Option.map_eq_some_iff] at hx
     obtain ⟨b, hb, rfl⟩ := hx
     obtain ⟨y, y1, y2, y3⟩ := l1.get hb
     obtain ⟨v, v1, v2⟩ := y3.get ha
     exact ⟨v, Tw hfits' (by simpa using y1) v1, v2⟩
    ·rw [List.getElem?_append_right (by rw [List.length_map, Bo]; exact hk), List.length_map, Bo] at hx
     obtain ⟨v, v1, v2⟩ := k8 k x j a (by rw [List.getElem?_append_right (by rw [List.length_map]; exact hk), List.length_map]; exact hx) ha
     exact ⟨v, by rw [Rr (by rw [hd'l]; omega)]; exact v1, v2⟩
   ·rw [AH _ e] at hb
    refine (hO.1 id b hb).mono (fun _ _ h => h) hupd (fun g' hg' => w2 g' ((hO.1 id b hb).gsome hg') (hotherg id b g' e hb hg')) (fun _ _ _ _ => rfl)
  ·have back : ∀ i c, AG S r (some (FE (BR l) ys)) i = some c → ∃ c', S i = some c' := fun i c hc => by
    by_cases e : i = r
    ·subst e; exact ⟨_, sr⟩
    ·rw [AH _ e] at hc; exact ⟨c, hc⟩
   obtain ⟨c1, c1'⟩ := back _ _ q1
   obtain ⟨c2, c2'⟩ := back _ _ q2
   exact hO.2 _ _ _ _ _ c1' c2' q3 q4
  ·rw [hw]
   exact ⟨rfl, rfl, rfl⟩
  ·exact w2 g' q1 fun e => q2 r _ sr (by rw [hh, e]; exact k1)
  ·refine .inr fun hno => ?_
   by_cases e : id = r
   ·subst e; exact hno id _ sr q2
   ·rw [AH _ e] at q1; exact hno id _ q1 q2
theorem On (l : List Bd) (hn : Ck l) (hl : l.length ≤ 100000) (r : Nat) (hr : 1000 ≤ r) (S : AA) (sr : S r = some (FC l)) :
  As Tryz.prog 120 [.one (.row r l.length), .one (.fn 121 [])] S (.tup []) (AG S r (some (FC (BR l)))) := by
 intro hS σ w vs ι hG hF hO hv
 cases hv with
 | @cons v1 _ _ _ h1 hv =>
 cases hv with
 | @cons v2 _ _ _ h2 hv =>
 cases hv
 obtain ⟨b, b1, b2, b3⟩ := CX (AY h1)
 rw [sr] at b1
 cases b1
 have hv1 := b3 (by simp [AL.len])
 subst hv1
 have hv2 : v2 = .func (.func 121) #[] #[] := by
  cases AY h2 with
  | @fn _ vs _ c q1 q2 q3 =>
   have e : vs = #[] := Array.eq_empty_of_size_eq_zero (by simpa using q1)
   rw [e]
 subst hv2
 have e : ∀ m : List Bd, FC m = FE m [] := fun m => by rw [FE, List.append_nil]
 rw [e] at sr ⊢
 exact RU l [] (by simp) hn hl r hr S sr hS σ w ι hF hO
theorem UT (l : List Bd) (hn : Ck l) (hl : l.length ≤ 100000) (r : Nat) (hr : 1000 ≤ r) (S : AA) (sr : S r = some (FC l)) :
  As Tryz.prog 108 [.one (.row r l.length)] S (.one (.row r l.length)) (AG S r (some (FC (BR l)))) := by
 refine J_.acS fun hS C hC => ?_
 unfold Ff
 repeat' with_reducible first | refine W ?_ | refine Z0 ?_ | ((first | refine Wo fun K hK => ?_ | refine Wq ?_ | refine Wr ?_); (try simp only [go_sem, fN, seval, eT, iR]); (repeat refine Ai ?_); (try (refine hK _ ?_; clear hK K)))
 refine ⟨_, _, On l hn hl (up1 r) (BL r) (upS S) (by rw [Bv, sr]; rfl), ?_⟩
 repeat' with_reducible first | refine W ?_ | refine Z0 ?_ | ((first | refine Wo fun K hK => ?_ | refine Wq ?_ | refine Wr ?_); (try simp only [go_sem, fN, seval, eT, iR]); (repeat refine Ai ?_); (try (refine hK _ ?_; clear hK K)))
 have hc := A9 (b := FC (BR l)) hS hr rfl
 refine MD trivial ?_ (G0 (n := l.length) hr) (fun i b _ h => (hc i b h).2) (Gi hc) hc
 simp only [go_sem, fN, seval, eT, iR, AB, AD, AI]

def IU : IR :=
 (.seq (.ops [.i 2 (.mov (.c (.one (.full []))))]) (.seq (.ops [.i 3 (.mov (.c (.one (.full []))))]) (.seq (.seq (.ops [.i 4 (.mov (.n 0))]) (.block 0 (.loop (.seq (.seq (.ops [.m 7 4, .m 8 0, .i 9 (.len false (.t 8)), .i 10 (.bin .lss (.t 7) (.t 9))]) (.cond (.t 10) .skip (.exit 0))) (.seq (.block 1 (.seq (.ops [.m 13 3, .m 14 0, .m 15 4, .i 16 (.indexAddr 3 (.t 14) (.t 15)), .L 17 3 16, .i 18 (.buildSlice false 138 3 [.t 17]), .i 19 (.append true 138 3 56 (.t 13) (.t 18)), .m 3 19]) (.seq (.ops [.m 20 3, .i 21 (.len false (.t 20)), .i 22 (.bin .sub (.t 21) (.n 1)), .m 5 22]) (.block 2 (.loop (.seq (.seq (.ops [.m 23 5, .i 24 (.bin .gtr (.t 23) (.n 0)), .m 25 24, .mk (some 26) (some (25, true)) (.mov (.t 3)) .no, .mk (some 27) (some (25, true)) (.mov (.t 5)) .no, .mk (some 28) (some (25, true)) (.indexAddr 3 (.t 26) (.t 27)) .no, .mk (some 29) (some (25, true)) (.fieldAddr 0 (.t 28)) .no, .mk (some 30) (some (25, true)) (.load false 1 (.t 29)) .no, .mk (some 31) (some (25, true)) (.mov (.t 3)) .no, .mk (some 32) (some (25, true)) (.mov (.t 5)) .no, .mk (some 33) (some (25, true)) (.bin .sub (.t 32) (.n 1)) .no, .mk (some 34) (some (25, true)) (.indexAddr 3 (.t 31) (.t 33)) .no, .mk (some 35) (some (25, true)) (.fieldAddr 0 (.t 34)) .no, .mk (some 36) (some (25, true)) (.load false 1 (.t 35)) .no, .mk (some 37) (some (25, true)) (.bin .lss (.t 30) (.t 36)) .no, .i 38 (.pick (.t 25) (.t 37) (.c (.one (.st (.bool false)))))]) (.cond (.t 38) .skip (.exit 2))) (.seq (.block 3 (.seq (.ops [.m 41 3, .m 42 5, .i 43 (.indexAddr 3 (.t 41) (.t 42)), .L 44 3 43, .i 6 (.alloc 138 [.st (.str (ByteArray.mk (#[]))), .st (.str (ByteArray.mk (#[]))), .full []]), .s 3 6 44]) (.seq (.ops [.m 45 3, .m 46 5, .m 47 3, .m 48 5, .i 49 (.bin .sub (.t 48) (.n 1)), .i 50 (.indexAddr 3 (.t 47) (.t 49)), .L 51 3 50, .i 52 (.indexAddr 3 (.t 45) (.t 46)), .s 3 52 51]) (.ops [.m 53 3, .m 54 5, .i 55 (.bin .sub (.t 54) (.n 1)), .L 56 3 6, .i 57 (.indexAddr 3 (.t 53) (.t 55)), .s 3 57 56])))) (.ops [.m 39 5, .i 40 (.bin .sub (.t 39) (.n 1)), .m 5 40])))))))) (.ops [.m 11 4, .i 12 (.bin .add (.t 11) (.n 1)), .m 4 12])))))) (.seq (.ops [.m 58 3, .m 2 58]) .ret))))
theorem Ny : OkF Tryz.prog 101 59 [28, 34, 43, 50, 52, 57, 19] IU [.t 2] := .of Tryz.func101 rfl rfl (by kernel_rfl) rfl

theorem Pp {l : List Bd} {b : Bd} {k : Nat} (hk : k ≤ l.length) (h1 : ∀ c ∈ l.take k, sLt b.1 c.1 = false) (h2 : ∀ c, l[k]? = some c → sLt b.1 c.1 = true) : GC b l = l.take k ++ b :: l.drop k := by
 induction l generalizing k with
 | nil => simp [GC]
 | cons c l ih =>
  cases k with
  | zero =>
   unfold GC
   rw [if_pos (h2 c rfl)]
   rfl
  | succ k =>
   unfold GC
   rw [if_neg (by rw [h1 c (by simp)]; simp), ih (by simpa using hk) (fun c hc => h1 c (by simp [hc])) (fun c hc => h2 c (by simpa using hc))]
   rfl
def CH (acc : List Bd) (b : Bd) (k : Nat) : List Bd := acc.take k ++ b :: acc.drop k
theorem Gs (acc : List Bd) (b : Bd) (k : Nat) : (CH acc b k).length = acc.length + 1 := by
 have := congrArg List.length (List.take_append_drop k acc)
 unfold CH
 rw [List.length_append] at this ⊢
 rw [List.length_cons]
 omega
theorem Pe {acc : List Bd} {b : Bd} {k : Nat} (h : k ≤ acc.length) : (CH acc b k)[k]? = some b := by
 unfold CH
 rw [List.getElem?_append_right (by rw [List.length_take]; omega), List.length_take, Nat.min_eq_left h, Nat.sub_self]
 rfl
theorem Nb {acc : List Bd} {b c : Bd} {k : Nat} (h : acc[k]? = some c) : (CH acc b (k + 1))[k]? = some c := by
 have := Bn h
 unfold CH
 rw [List.getElem?_append_left (by rw [List.length_take]; omega), List.getElem?_take, if_pos (by omega), h]
theorem Od {acc : List Bd} {b c : Bd} {k : Nat} (h : acc[k]? = some c) : ((CH acc b (k + 1)).set (k + 1) c).set k b = CH acc b k := by
 have hk := Bn h
 apply List.ext_getElem?
 intro i
 have hl : ((CH acc b (k + 1)).set (k + 1) c).length = acc.length + 1 := by rw [List.length_set, Gs]
 rw [List.getElem?_set, List.getElem?_set]
 unfold CH at hl ⊢
 by_cases h1 : k = i
 ·subst h1
  rw [if_pos rfl, if_pos (by rw [hl]; omega), List.getElem?_append_right (by rw [List.length_take]; omega), List.length_take, Nat.min_eq_left (by omega), Nat.sub_self]
  rfl
 ·rw [if_neg h1]
  by_cases h2 : k + 1 = i
  ·subst h2
   have e := Gs acc b (k + 1)
   unfold CH at e
   rw [if_pos rfl, if_pos (by rw [e]; omega), List.getElem?_append_right (by rw [List.length_take]; omega), List.length_take, Nat.min_eq_left (by omega), show k + 1 - k = 1 by omega, List.getElem?_cons_succ, List.getElem?_drop, Nat.add_zero, h]
  ·rw [if_neg h2]
   rcases Nat.lt_or_ge i k with h3 | h3
   ·rw [List.getElem?_append_left (by rw [List.length_take]; omega), List.getElem?_append_left (by rw [List.length_take]; omega), List.getElem?_take, List.getElem?_take, if_pos (by omega), if_pos h3]
   ·rw [List.getElem?_append_right (by rw [List.length_take]; omega), List.getElem?_append_right (by rw [List.length_take]; omega), List.length_take, List.length_take, Nat.min_eq_left (by omega), Nat.min_eq_left (by omega)]
    obtain ⟨j, rfl⟩ : ∃ j, i = k + 2 + j := ⟨i - (k + 2), by omega⟩
    rw [show k + 2 + j - (k + 1) = j + 1 by omega, show k + 2 + j - k = j + 1 + 1 by omega, List.getElem?_cons_succ, List.getElem?_cons_succ, List.getElem?_drop, List.getElem?_drop]
    congr 1
    omega
theorem OU (acc : List Bd) (b : Bd) : CH acc b acc.length = acc ++ [b] := by
 unfold CH
 rw [List.take_length, List.drop_length]
theorem RF (l : List Bd) (hn : Ck l) (hl : l.length ≤ 100000) : AN Tryz.prog 101 [Ft l] (Ft (BR l)) := by
 refine Ny.ac fun C hC => ?_
 unfold IU
 repeat' with_reducible first | refine W ?_ | refine Z0 ?_ | ((first | refine Wo fun K hK => ?_ | refine Wp ?_ | refine Wq ?_ | refine Wr ?_); (try simp only [go_sem, fN, seval, eT, iR, dT, dF, nL]); (repeat refine Ai ?_); (try (refine hK _ ?_; clear hK K)); try refine iC ?_)
 refine IWP.ghost (Aa.ownM 3 900 138 3 rfl rfl (by rw [hC]; decide)) ?_
 refine IWP.loopD [6] (fun m s => ∃ i, i ≤ l.length ∧ m = l.length - i ∧ s.env 0 = Ft l ∧ s.env 3 = .one (.row 900 i) ∧ s.env 4 = AO i ∧ s.S 900 = some (FC (BR (l.take i))) ∧ s.S 6 = none) l.length ⟨0, Nat.zero_le _, rfl, rfl, rfl, rfl, rfl, rfl⟩ ?_
 rintro m ⟨env, S⟩ ⟨i, hi, rfl, e0, e3, e4, s900, s6⟩
 simp only at e0 e3 e4 s900 s6
 have hlen : (BR (l.take i)).length = i := by rw [Bo, List.length_take]; omega
 have hnt : ∀ j, Ck (l.take j) := fun j => by
  unfold Ck
  rw [List.map_take]
  exact hn.sublist (List.take_sublist _ _)
 by_cases hlt : (i : Int) < l.length
 ·obtain ⟨b, hb⟩ := Af (show i < l.length by omega)
  have ho := CZ (hnt i)
  have hmap : (BR (l.take i)).map CS ++ [CS b] = (CH (BR (l.take i)) b i).map CS := by
   have := OU (BR (l.take i)) b
   rw [hlen] at this
   rw [this, List.map_append]
   rfl
  have hsnoc : BR (l.take (i + 1)) = GC b (BR (l.take i)) := by rw [Ak hb, PQ]
  generalize hacc : BR (l.take i) = acc at *
  repeat' with_reducible first | refine W ?_ | refine Z0 ?_ | ((first | refine Wo fun K hK => ?_ | refine Wp ?_ | refine Wq ?_ | refine Wr ?_); (try simp only [go_sem, fN, seval, eT, iR, e0, e3, e4, s900, s6, hlt, hb, hlen, CS, dT, dF, nL]); (repeat refine Ai ?_); (try (refine hK _ ?_; clear hK K)); try refine iC ?_)
  refine IWP.loopD [6] (fun m s => ∃ k, k ≤ i ∧ m = k ∧ (∀ c ∈ acc.drop k, sLt b.1 c.1 = true) ∧ s.env 0 = Ft l ∧ s.env 3 = .one (.row 900 (i + 1)) ∧ s.env 4 = AO i ∧ s.env 5 = AO k ∧ s.S 900 = some (FC (CH acc b k)) ∧ s.S 6 = none) i ⟨i, Nat.le_refl _, rfl, ?_, ?_⟩ ?_
  ·rw [← hlen, List.drop_length]; simp
  ·simp only [go_sem, fN, seval, eT, iR, e0, e3, e4, s6, hlen]
   refine ⟨by congr 3; omega, ?_⟩
   show AL.mrow _ _ (acc.map CS ++ [CS b]) = _
   rw [hmap]
  rintro k ⟨env2, S2⟩ ⟨_, hk, rfl, hd, e0, e3, e4, e5, s900, s6⟩
  simp only at e0 e3 e4 e5 s900 s6
  have hcl := Gs acc b k
  rw [hlen] at hcl
  have hck := Pe (b := b) (show k ≤ acc.length by omega)
  have hend : (∀ c, acc[k - 1]? = some c → 0 < k → sLt b.1 c.1 = false) → GC b acc = CH acc b k := fun h => by
   refine Pp (by omega) (fun c hc => ?_) fun c hc => hd c (by rw [Bf hc]; simp)
   cases k with
   | zero => simp at hc
   | succ k =>
    obtain ⟨p, hp⟩ := Af (show k < acc.length by omega)
    have h1 := h p hp (by omega)
    obtain ⟨j, hj, rfl⟩ := List.getElem_of_mem hc
    rw [List.length_take] at hj
    rw [List.getElem_take]
    have hcj : acc[j]? = some acc[j] := List.getElem?_eq_getElem (by omega)
    cases hx : sLt b.1 acc[j].1 with
    | false => rfl
    | true =>
     rcases Nat.lt_or_ge j k with h3 | h3
     ·have := CL hx (IS ho hcj hp h3)
      rw [this] at h1; cases h1
     ·have e : j = k := by omega
      subst e
      rw [hp] at hcj
      cases hcj
      rw [hx] at h1; cases h1
  by_cases hk0 : 0 < (k : Int)
  ·obtain ⟨k, rfl⟩ : ∃ q, k = q + 1 := ⟨k - 1, by omega⟩
   obtain ⟨c, hc⟩ := Af (show k < acc.length by omega)
   have hcp := Nb (b := b) hc
   have hz : (((k + 1 : Nat) : Int) - 1).toNat = k := by omega
   have hz0 : (0 : Int) ≤ ((k + 1 : Nat) : Int) - 1 := by omega
   have hl1 : k + 1 < i + 1 := by omega
   have hl2 : k < i + 1 := by omega
   cases hx : sLt b.1 c.1 with
   | true =>
    have hkk : ¬ k + 1 = k := by omega
    repeat' with_reducible first | refine W ?_ | refine Z0 ?_ | ((first | refine Wo fun K hK => ?_ | refine Wp ?_ | refine Wq ?_ | refine Wr ?_); (try simp only [go_sem, fN, seval, eT, iR, e0, e3, e4, e5, s900, s6, hk0, hck, hcp, hz, hz0, hcl, hl1, hl2, hx, CS, List.length_set, List.getElem?_set, hkk, dT, dF, nL]); (repeat refine Ai ?_); (try (refine hK _ ?_; clear hK K)); try refine iC ?_)
    refine AF ⟨k, by omega, k, by omega, rfl, fun d hd' => ?_, ?_⟩
    ·rw [Bf hc] at hd'
     rcases List.mem_cons.1 hd' with rfl | hd'
     ·exact hx
     ·exact hd d hd'
    ·simp only [go_sem, fN, seval, AS.drop, Ac, AC.clears, AC.clear, AC.highs, AC.high, Bool.not_false, Bool.true_and, Bool.and_self, AV.purge, AV.purges, AC.purge, AL.purge, List.contains_cons, List.contains_nil, Nat.reduceBEq, Bool.or_self, Bool.or_false, Bool.false_or, Bool.or_true, eT, iR, e0, e3, e4, e5, s6]
     refine ⟨by congr 3; omega, ?_⟩
     show AL.mrow _ _ ((((CH acc b (k + 1)).map CS).set (k + 1) (CS c)).set k (CS b)) = _
     rw [← List.map_set, ← List.map_set, Od hc]
   | false =>
    repeat' with_reducible first | refine W ?_ | refine Z0 ?_ | ((first | refine Wo fun K hK => ?_ | refine Wp ?_ | refine Wq ?_ | refine Wr ?_); (try simp only [go_sem, fN, seval, eT, iR, e0, e3, e4, e5, s900, s6, hk0, hck, hcp, hz, hz0, hcl, hl1, hl2, hx, CS, dT, dF, nL]); (repeat refine Ai ?_); (try (refine hK _ ?_; clear hK K)); try refine iC ?_)
    refine AF ⟨l.length - (i + 1), by omega, i + 1, by omega, rfl, ?_⟩
    rw [hsnoc, hend fun d hd' _ => by
     rw [show k + 1 - 1 = k by omega, hc] at hd'
     cases hd'
     exact hx]
    simp only [go_sem, fN, seval, AS.drop, Ac, AC.clears, AC.clear, AC.highs, AC.high, Bool.not_false, Bool.true_and, Bool.and_self, AV.purge, AV.purges, AC.purge, AL.purge, List.contains_cons, List.contains_nil, Nat.reduceBEq, Bool.or_self, Bool.or_false, Bool.false_or, Bool.or_true, eT, iR, e0, e3, e4, s900, s6]
    congr 3
  ·repeat' with_reducible first | refine W ?_ | refine Z0 ?_ | ((first | refine Wo fun K hK => ?_ | refine Wp ?_ | refine Wq ?_ | refine Wr ?_); (try simp only [go_sem, fN, seval, eT, iR, e0, e3, e4, e5, s900, s6, hk0, dT, dF, nL]); (repeat refine Ai ?_); (try (refine hK _ ?_; clear hK K)); try refine iC ?_)
   refine AF ⟨l.length - (i + 1), by omega, i + 1, by omega, rfl, ?_⟩
   rw [hsnoc, hend fun d hd' h => by omega]
   simp only [go_sem, fN, seval, AS.drop, Ac, AC.clears, AC.clear, AC.highs, AC.high, Bool.not_false, Bool.true_and, Bool.and_self, AV.purge, AV.purges, AC.purge, AL.purge, List.contains_cons, List.contains_nil, Nat.reduceBEq, Bool.or_self, Bool.or_false, Bool.false_or, Bool.or_true, eT, iR, e0, e3, e4, s900, s6]
   congr 3
 ·refine IWP.ghost (Aa.share (id := 900) s900) ?_
  repeat' with_reducible first | refine W ?_ | refine Z0 ?_ | ((first | refine Wo fun K hK => ?_ | refine Wp ?_ | refine Wq ?_ | refine Wr ?_); (try simp only [go_sem, fN, seval, eT, iR, e0, e3, e4, hlt, dT, dF, nL]); (repeat refine Ai ?_); (try (refine hK _ ?_; clear hK K)); try refine iC ?_)
  simp only [go_sem, fN, seval, AK, AS.result, AB, AD, AI, hlen]
  rw [List.take_of_length_le (by omega)]

def Ou (b : Bd) : KV × AV := (.s b.1, aTm b.2)
abbrev Q0 (l : List Bd) : AL := .map none (l.map Ou)
theorem H6 (l : List Bd) (n : ByteArray) : Dx (l.map Ou) (.s n) = (lookup l n).map fun t => aTm t := by
 induction l with
 | nil => rfl
 | cons b l ih =>
  unfold lookup
  rw [List.map_cons, Dx, List.find?_cons]
  by_cases h : b.1 = n
  ·have h1 : decide (b.1 = n) = true := decide_eq_true h
   rw [if_pos (show (Ou b).1 = KV.s n from congrArg KV.s h)]
   simp only [h1]
   rfl
  ·have h1 : decide (b.1 = n) = false := decide_eq_false h
   rw [if_neg (show ¬ (Ou b).1 = KV.s n from fun e => h (KV.s.inj e)), ih]
   simp only [h1]
   rfl
theorem Rk {l : List Bd} {n : ByteArray} (h : lookup l n = none) (t : Tm) : Ho (l.map Ou) (.s n) (aTm t) = (l ++ [(n, t)]).map Ou := by
 rw [LH (by rw [H6, h]; rfl), List.map_append]
 rfl
theorem Ut (p : Tm) (hz : p.size ≤ 1000000) : ∀ (t : Tm) (a0 : Nat) (l : List Bd) (S : AA), 1000 ≤ a0 → S a0 = some (Q0 l) →
  As Tryz.prog 107 [aTm p, aTm t, .one (.mptr a0)] S (Ad (p.mt t l).2) (AG S a0 (some (Q0 (p.mt t l).1))) := by
 induction h : SizeOf.sizeOf p using Nat.strongRecOn generalizing p with
 | _ N ih =>
 subst h
 intro t a0 l S ha0 hSa
 have hs := Tm.size_eq p
 have hln := Tm.length_le p.args
 refine K0.acS fun hS C hC => ?_
 have n3 : S 3 = none := Aj hS (by omega)
 have n4 : S 4 = none := Aj hS (by omega)
 have n7 : S 7 = none := Aj hS (by omega)
 have d3 : ¬ 3 = a0 := by omega
 have d4 : ¬ 4 = a0 := by omega
 have d7 : ¬ 7 = a0 := by omega
 have e3 : ¬ a0 = 3 := by omega
 have e4 : ¬ a0 = 4 := by omega
 have e7 : ¬ a0 = 7 := by omega
 unfold GG
 repeat' with_reducible first | refine W ?_ | refine Z0 ?_ | ((first | refine Wo fun K hK => ?_ | refine Wp ?_ | refine Wq ?_ | refine Wr ?_); (try simp only [go_sem, fN, seval, eT, iR, n3, n4, dT, dF, nL]); (repeat refine Ai ?_); (try (refine hK _ ?_; clear hK K)); try refine iC ?_)
 refine ⟨_, D0 _, ?_⟩
 cases hv : A0 p.name with
 | true =>
  cases hl : lookup l p.name with
  | some x =>
   repeat' (first | (with_reducible first | refine W ?_ | refine Z0 ?_ | ((first | refine Wo fun K hK => ?_ | refine Wp ?_ | refine Wq ?_ | refine Wr ?_); (try simp only [go_sem, fN, seval, eT, iR, hv, hSa, n3, n4, n7, d3, d4, d7, e3, e4, e7, B6, Do, KV.of, Fo, H6, hl, dT, dF, nL]); (repeat refine Ai ?_); (try (refine hK _ ?_; clear hK K)); try refine iC ?_)) | refine Cg _ (Sw _ _) ?_)
   rw [Tm.mt_old hv hl]
   refine Cy (Ad (x.beq t)) hS ha0 rfl trivial rfl rfl (by simp only [go_sem, fN, seval, eT, iR, e3, e4, e7, hSa]) fun i hi hne => ?_
   have i3 : ¬ i = 3 := by omega
   have i4 : ¬ i = 4 := by omega
   have i7 : ¬ i = 7 := by omega
   simp only [go_sem, fN, seval, eT, iR, i3, i4, i7]
  | none =>
   repeat' with_reducible first | refine W ?_ | refine Z0 ?_ | ((first | refine Wo fun K hK => ?_ | refine Wp ?_ | refine Wq ?_ | refine Wr ?_); (try simp only [go_sem, fN, seval, eT, iR, hv, hSa, n3, n4, n7, d3, d4, d7, e3, e4, e7, B6, Do, KV.of, Fo, H6, hl, Rk, dT, dF, nL]); (repeat refine Ai ?_); (try (refine hK _ ?_; clear hK K)); try refine iC ?_)
   rw [Tm.mt_new hv hl]
   refine Cy (Ad true) hS ha0 rfl trivial rfl rfl (by simp only [go_sem, fN, seval, eT, iR, e3, e4, e7, hSa]) fun i hi hne => ?_
   have i3 : ¬ i = 3 := by omega
   have i4 : ¬ i = 4 := by omega
   have i7 : ¬ i = 7 := by omega
   simp only [go_sem, fN, seval, eT, iR, i3, i4, i7, hne]
 | false =>
  by_cases hn : p.name = t.name
  case neg =>
   have hc : ¬ (p.name = t.name ∧ p.args.length = t.args.length) := fun h => hn h.1
   repeat' with_reducible first | refine W ?_ | refine Z0 ?_ | ((first | refine Wo fun K hK => ?_ | refine Wp ?_ | refine Wq ?_ | refine Wr ?_); (try simp only [go_sem, fN, seval, eT, iR, hv, hSa, n3, n4, n7, d3, d4, d7, e3, e4, e7, hn, dT, dF, nL]); (repeat refine Ai ?_); (try (refine hK _ ?_; clear hK K)); try refine iC ?_)
   rw [Tm.mt_clash hv hc]
   refine Cy (Ad false) hS ha0 rfl trivial rfl rfl (by simp only [go_sem, fN, seval, eT, iR, e3, e4, hSa]) fun i hi hne => ?_
   have i3 : ¬ i = 3 := by omega
   have i4 : ¬ i = 4 := by omega
   simp only [go_sem, fN, seval, eT, iR, i3, i4]
  by_cases hlen : p.args.length = t.args.length
  case neg =>
   have hc : ¬ (p.name = t.name ∧ p.args.length = t.args.length) := fun h => hlen h.2
   have hlen' : ¬ (p.args.length : Int) = t.args.length := by omega
   repeat' with_reducible first | refine W ?_ | refine Z0 ?_ | ((first | refine Wo fun K hK => ?_ | refine Wp ?_ | refine Wq ?_ | refine Wr ?_); (try simp only [go_sem, fN, seval, eT, iR, hv, hSa, n3, n4, n7, d3, d4, d7, e3, e4, e7, hn, hlen', dT, dF, nL]); (repeat refine Ai ?_); (try (refine hK _ ?_; clear hK K)); try refine iC ?_)
   rw [Tm.mt_clash hv hc]
   refine Cy (Ad false) hS ha0 rfl trivial rfl rfl (by simp only [go_sem, fN, seval, eT, iR, e3, e4, hSa]) fun i hi hne => ?_
   have i3 : ¬ i = 3 := by omega
   have i4 : ¬ i = 4 := by omega
   simp only [go_sem, fN, seval, eT, iR, i3, i4]
  have hlen' : (p.args.length : Int) = t.args.length := by omega
  have hknot : p.mt t l = Tm.mtL p.args t.args l := Tm.mt_knot hv hn hlen
  repeat' with_reducible first | refine W ?_ | refine Z0 ?_ | ((first | refine Wo fun K hK => ?_ | refine Wp ?_ | refine Wq ?_ | refine Wr ?_); (try simp only [go_sem, fN, seval, eT, iR, hv, hSa, n3, n4, n7, d3, d4, d7, e3, e4, e7, hn, hlen', dT, dF, nL]); (repeat refine Ai ?_); (try (refine hK _ ?_; clear hK K)); try refine iC ?_)
  refine IWP.loop (fun m x => ∃ k, k ≤ p.args.length ∧ m = p.args.length - k ∧ (Tm.mtL (p.args.take k) (t.args.take k) l).2 = true ∧ x.env 2 = .one (.mptr a0) ∧ x.env 3 = .one (.ptr 3 1 0 0) ∧ x.env 4 = .one (.ptr 4 1 0 0) ∧ x.env 44 = AO p.args.length ∧ x.env 45 = AO k ∧
    x.S 3 = some (.box 25 [.st (.str t.name), .st (.list (p.args.map Al))]) ∧ x.S 4 = some (.box 25 [.st (.str t.name), .st (.list (t.args.map Al))]) ∧ x.S a0 = some (Q0 (Tm.mtL (p.args.take k) (t.args.take k) l).1) ∧ ∀ i, 1000 ≤ i → i ≠ a0 → x.S i = S i)
   p.args.length ⟨0, Nat.zero_le _, rfl, by simp [Tm.mtL], rfl, rfl, rfl, by simp only [go_sem, fN, seval, eT, iR, hlen'], rfl, by simp only [go_sem, fN, seval, eT, iR, hn], rfl, by (simp only [go_sem, fN, seval, eT, iR, e3, e4, hSa]); simp [Tm.mtL], fun i hi hne => ?_⟩ ?_
  ·have i3 : ¬ i = 3 := by omega
   have i4 : ¬ i = 4 := by omega
   simp only [go_sem, fN, seval, eT, iR, i3, i4]
  rintro m ⟨env, S1⟩ ⟨k, hk, rfl, hok, e2, e3', e4', e44, e45, s3, s4, sa, hrest⟩
  simp only at e2 e3' e4' e44 e45 s3 s4 sa hrest
  have hend : ∀ (b : Bool) (r : List Bd) (env : Nat → AV) (S2 : AA), env 6 = Ad b → S2 a0 = some (Q0 r) → (∀ i, 1000 ≤ i → i ≠ a0 → S2 i = S i) → Gc C [.t 6] (Ad b) (AG S a0 (some (Q0 r))) .ret ⟨env, S2⟩ := fun b r env S2 h6 h1 h2 =>
   Cy (Ad b) hS ha0 rfl trivial (by simp only [AB, AD, AI, h6, Option.map_some]) rfl h1 h2
  by_cases hlt : (k : Int) < p.args.length
  ·obtain ⟨a, ha⟩ := Af (show k < p.args.length by omega)
   obtain ⟨c, hc⟩ := Af (show k < t.args.length by omega)
   have hstep := Tm.mtL_take hlen ha hc hok
   repeat' with_reducible first | refine W ?_ | refine Z0 ?_ | ((first | refine Wo fun K hK => ?_ | refine Wp ?_ | refine Wq ?_ | refine Wr ?_); (try simp only [go_sem, fN, seval, eT, iR, e2, e3', e4', e44, e45, s3, s4, sa, hlt, ha, hc, dT, dF, nL]); (repeat refine Ai ?_); (try (refine hK _ ?_; clear hK K)); try refine iC ?_)
   refine ⟨_, _, ih _ (Tm.lt_of_arg (AP ha)) a (by have := Tm.size_mem (AP ha); omega) rfl c (up1 a0) (Tm.mtL (p.args.take k) (t.args.take k) l).1 (upS S1) (BL a0) (by rw [Bv, sa]; rfl), ?_⟩
   rw [← hstep]
   cases hb : (Tm.mtL (p.args.take (k + 1)) (t.args.take (k + 1)) l).2 with
   | true =>
    repeat' with_reducible first | refine W ?_ | refine Z0 ?_ | ((first | refine Wo fun K hK => ?_ | refine Wp ?_ | refine Wq ?_ | refine Wr ?_); (try simp only [go_sem, fN, seval, eT, iR, hb, e2, e3', e4', e44, e45, s3, s4, dT, dF, nL]); (repeat refine Ai ?_); (try (refine hK _ ?_; clear hK K)); try refine iC ?_)
    refine AF ⟨p.args.length - (k + 1), by omega, k + 1, by omega, rfl, hb, ?_⟩
    simp only [go_sem, fN, seval, eT, iR, e2, e3', e4', e44, s3, s4, d3, d4]
    refine ⟨by congr 3, fun i hi hne => ?_⟩
    simp only [go_sem, fN, seval, eT, iR, hne]
    exact hrest i hi hne
   | false =>
    have hno := Tm.mtL_no hlen hb
    repeat' with_reducible first | refine W ?_ | refine Z0 ?_ | ((first | refine Wo fun K hK => ?_ | refine Wp ?_ | refine Wq ?_ | refine Wr ?_); (try simp only [go_sem, fN, seval, eT, iR, hb, e2, e3', e4', e44, e45, s3, s4, dT, dF, nL]); (repeat refine Ai ?_); (try (refine hK _ ?_; clear hK K)); try refine iC ?_)
    rw [hknot, hno]
    refine hend false _ _ _ rfl (by simp only [go_sem, fN, seval, eT, iR]) fun i hi hne => ?_
    simp only [go_sem, fN, seval, eT, iR, hne]
    exact hrest i hi hne
  ·rw [List.take_of_length_le (by omega), List.take_of_length_le (by omega)] at hok sa
   repeat' with_reducible first | refine W ?_ | refine Z0 ?_ | ((first | refine Wo fun K hK => ?_ | refine Wp ?_ | refine Wq ?_ | refine Wr ?_); (try simp only [go_sem, fN, seval, eT, iR, e44, e45, hlt, dT, dF, nL]); (repeat refine Ai ?_); (try (refine hK _ ?_; clear hK K)); try refine iC ?_)
   rw [hknot, hok]
   exact hend true _ _ _ rfl sa hrest
theorem Kz {l m : List Bd} (h : l.Perm m) (hn : Ck m) : BR l = BR m :=
 Dv (CZ (Gw h.symm hn)) (CZ hn) ((Dt l).trans (h.trans (Dt m).symm))
theorem Pq (p t : Tm) (hp : p.size ≤ 100000) (ht : t.size ≤ 1000000) : AN Tryz.prog 80 [aTm p, aTm t] (.tup [Ft (A4 p t), Ad (Bc p t)]) := by
 have hnm := J9 p t
 have hml := PI p t
 have hms := Ts p t
 refine Ka.ac fun C hC => ?_
 unfold GL
 repeat' with_reducible first | refine W ?_ | refine Z0 ?_ | ((first | refine Wo fun K hK => ?_ | refine Wp ?_ | refine Wq ?_ | refine Wr ?_); (try simp only [go_sem, fN, seval, eT, iR, dT, dF, nL]); (repeat refine Ai ?_); (try (refine hK _ ?_; clear hK K)); try refine iC ?_)
 refine ⟨_, _, Ut p (by omega) t (up1 10) [] _ (BL 10) (by rw [Bv]; rfl), ?_⟩
 cases hc : (p.mt t []).2 with
 | false =>
  repeat' with_reducible first | refine W ?_ | refine Z0 ?_ | ((first | refine Wo fun K hK => ?_ | refine Wp ?_ | refine Wq ?_ | refine Wr ?_); (try simp only [go_sem, fN, seval, eT, iR, hc, dT, dF, nL]); (repeat refine Ai ?_); (try (refine hK _ ?_; clear hK K)); try refine iC ?_)
  simp only [go_sem, fN, seval, AK, AS.result, AB, AD, AI]
  unfold A4 Bc
  rw [hc]
  rfl
 | true =>
  have hca : A4 p t = BR (p.mt t []).1 := by unfold A4; rw [if_pos hc]
  have his : Bc p t = true := hc
  repeat' with_reducible first | refine W ?_ | refine Z0 ?_ | ((first | refine Wo fun K hK => ?_ | refine Wp ?_ | refine Wq ?_ | refine Wr ?_); (try simp only [go_sem, fN, seval, eT, iR, hc, B6, dT, dF, nL]); (repeat refine Ai ?_); (try (refine hK _ ?_; clear hK K)); try refine iC ?_)
  rw [hca, his]
  generalize (p.mt t []).1 = l at *
  refine IWP.ghost (Aa.ownM 7 500 138 3 (by rfl) (by rfl) (by rw [hC]; decide)) ?_
  refine IWP.loopD [9] (fun m x => ∃ seen : List Nat, seen.Nodup ∧ (∀ j ∈ seen, j < l.length) ∧ m = l.length - seen.length ∧ x.env 7 = .one (.row 500 seen.length) ∧ x.env 17 = .one (.ptr 17 1 0 0) ∧ x.S 10 = some (Q0 l) ∧ x.S 17 = some (.iter (.mptr 10) l.length seen) ∧ x.S 500 = some (FC (met l seen)) ∧ x.S 9 = none) l.length ⟨[], List.nodup_nil, by simp, rfl, rfl, rfl, by simp only [go_sem, fN, seval, eT, iR], by simp only [go_sem, fN, seval, eT, iR], rfl, rfl⟩ ?_
  rintro m ⟨env, S⟩ ⟨seen, hnd, hlt, rfl, e7, e17, s10, s17, s500, s9⟩
  simp only at e7 e17 s10 s17 s500 s9
  have hsl := HL hnd hlt
  have hmt := MX hlt
  repeat' with_reducible first | refine W ?_ | refine Z0 ?_ | ((first | refine Wo fun K hK => ?_ | refine Wp ?_ | refine Wq ?_ | refine Wr ?_); (try simp only [go_sem, fN, seval, eT, iR, e7, e17, s10, s17, DP, dT, dF, nL]); (repeat refine Ai ?_); (try (refine hK _ ?_; clear hK K)); try refine iC ?_)
  refine ⟨fun hall => ?_, fun j x c hx hj hkv => ?_⟩
  ·have hmp := ND hnd hlt hall
   have hl' : seen.length = l.length := by rw [← hmt]; exact hmp.length_eq
   refine hK _ ?_
   clear hK K
   refine Wb ?_
   refine Wa ?_
   with_reducible refine Wp ?_
   simp only [go_sem, fN, seval, true_implies, false_implies, implies_true, dT, dF, nL]
   (try with_reducible refine iC ?_)
   repeat' (with_reducible first | refine Wb ?_ | refine Wc ?_ | refine Wd ?_ | refine We ?_ | refine Wg ?_ | refine Wh ?_ | refine Wi ?_ | refine Wj ?_ | refine Wk (by decide) ?_ | refine Wl ?_ | refine Wm ?_ | refine Wn ?_)
   refine IWP.mid (fun x => x.env 4 = .one (.row 500 l.length) ∧ x.env 5 = Ad true ∧ x.S 500 = some (FC (BR l))) ?_ ?_
   ·have hs := UT (met l seen) (Gw hmp.symm hnm) (by omega) (up1 500) (BL 500) (upS S) (by rw [Bv, s500]; rfl)
    rw [hmt, hl', Kz hmp hnm] at hs
    rw [hl'] at e7
    repeat' with_reducible first | refine W ?_ | refine Z0 ?_ | ((first | refine Wo fun K hK => ?_ | refine Wq ?_ | refine Wr ?_); (try simp only [go_sem, fN, seval, eT, iR, e7]); (repeat refine Ai ?_); (try (refine hK _ ?_; clear hK K)))
    refine ⟨_, _, hs, ?_⟩
    repeat' with_reducible first | refine W ?_ | refine Z0 ?_ | ((first | refine Wo fun K hK => ?_ | refine Wq ?_ | refine Wr ?_); (try simp only [go_sem, fN, seval, eT, iR, e7]); (repeat refine Ai ?_); (try (refine hK _ ?_; clear hK K)))
    refine ⟨rfl, ?_⟩
    simp only [go_sem, fN, seval, eT, iR]
   rintro ⟨env, S⟩ ⟨e4, e5, s500⟩
   simp only at e4 e5 s500
   refine IWP.ghost (Aa.share (id := 500) s500) ?_
   repeat' with_reducible first | refine W ?_ | refine Z0 ?_ | ((first | refine Wo fun K hK => ?_ | refine Wq ?_ | refine Wr ?_); (try simp only [go_sem, fN, seval, eT, iR]); (repeat refine Ai ?_); (try (refine hK _ ?_; clear hK K)))
   simp only [go_sem, fN, seval, AK, AS.result, AB, AD, AI, e4, e5, Bo]
  ·rw [Option.map_eq_some_iff] at hx
   obtain ⟨b, hb, rfl⟩ := hx
   have hbz := hms b (AP hb)
   have hjl : j < l.length := by
    rcases Nat.lt_or_ge j l.length with h | h
    ·exact h
    ·rw [List.getElem?_eq_none h] at hb; cases hb
   have hcv : c = .str b.1 := by
    have : some (SV.str b.1) = some c := hkv
    cases this
    rfl
   subst hcv
   have hnd' : (seen ++ [j]).Nodup := by
    rw [List.nodup_append]
    exact ⟨hnd, by simp, fun a ha b hb e => hj (by rw [List.mem_singleton.1 hb] at e; rw [← e]; exact ha)⟩
   have hlt' : ∀ i ∈ seen ++ [j], i < l.length := fun i hi => by
    rcases List.mem_append.1 hi with h | h
    ·exact hlt i h
    ·rw [List.mem_singleton.1 h]; exact hjl
   have hsl' := HL hnd' hlt'
   rw [List.length_append, List.length_singleton] at hsl'
   refine hK _ ?_
   clear hK K
   refine Wb ?_
   repeat' (first | (with_reducible first | refine W ?_ | refine Z0 ?_ | ((first | refine Wo fun K hK => ?_ | refine Wp ?_ | refine Wq ?_ | refine Wr ?_); (try simp only [go_sem, fN, seval, eT, iR, e7, e17, s10, s17, s500, s9, DP, List.getLast?_concat, hb, Ou, KV.sv, hmt, CS, dT, dF, nL]); (repeat refine Ai ?_); (try (refine hK _ ?_; clear hK K)); try refine iC ?_)) | refine Cg _ (IJ b.2 (by omega)) ?_)
   refine AF ⟨l.length - (seen.length + 1), by omega, seen ++ [j], hnd', hlt', by rw [List.length_append, List.length_singleton], ?_⟩
   rw [OH hb]
   simp only [go_sem, fN, seval, AS.drop, Ac, AC.clears, AC.clear, AC.highs, AC.high, Bool.not_false, Bool.true_and, Bool.and_self, AV.purge, AV.purges, AC.purge, AL.purge, List.contains_cons, List.contains_nil, Nat.reduceBEq, Bool.or_self, Bool.or_false, Bool.false_or, Bool.or_true, eT, iR, e7, e17, s10, s500]
   show AL.mrow _ _ ((met l seen).map CS ++ [CS b]) = FC _
   rw [FC, List.map_append]
   rfl

end Go.Proofs.YtgcddcaachpbnaaGreat
