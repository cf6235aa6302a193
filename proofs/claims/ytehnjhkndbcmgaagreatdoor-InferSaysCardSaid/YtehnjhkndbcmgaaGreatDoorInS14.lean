/-
  Part 14 of the texts: BInf4; IrSubst; BSubst. Conditions: none.
-/
import Derived.Test.YtehnjhkndbcmgaaGreatDoorInS13
namespace Go.Proofs.YtehnjhkndbcmgaaGreatDoor
open Go Go.RowKit
set_option linter.unusedVariables false
set_option linter.unusedSimpArgs false
set_option maxHeartbeats 2000000
def entI (k : Nat) : List ByteArray → List (KV × AV)
  | [] => []
  | n :: l => (.s n, aInt k) :: entI (k + 1) l
abbrev mapI (l : List ByteArray) : ABlk := .map none (entI 0 l)
theorem entI_len : ∀ (l : List ByteArray) (k : Nat), (entI k l).length = l.length
  | [], _ => rfl
  | n :: l, k => by rw [entI, List.length_cons, List.length_cons, entI_len l]
theorem mGet_entI : ∀ (l : List ByteArray) (k : Nat) (n : ByteArray), mGet (entI k l) (.s n) = if posN l n < l.length then some (aInt ((k + posN l n : Nat) : Int)) else none
  | [], k, n => by simp [entI, mGet, posN]
  | x :: l, k, n => by
    rw [entI, mGet, posN]
    by_cases e : x = n
    · rw [if_pos (congrArg KV.s e), if_pos e]
      simp
    · rw [if_neg (fun h => e (KV.s.inj h)), if_neg e, mGet_entI l (k + 1) n, List.length_cons]
      by_cases h : posN l n < l.length
      · rw [if_pos h, if_pos (by omega), show k + 1 + posN l n = k + (posN l n + 1) by omega]
      · rw [if_neg h, if_neg (by omega)]
theorem mPut_entI : ∀ {l : List ByteArray} {k : Nat} {n : ByteArray}, ¬ posN l n < l.length → ∀ v, mPut (entI k l) (.s n) v = entI k l ++ [(.s n, v)]
  | [], k, n, h, v => rfl
  | x :: l, k, n, h, v => by
    rw [posN] at h
    by_cases e : x = n
    · rw [if_pos e] at h; simp at h
    · rw [if_neg e] at h
      rw [entI, mPut, if_neg (fun h => e (KV.s.inj h)), mPut_entI (by simpa using h), List.cons_append]
theorem entI_snoc : ∀ (l : List ByteArray) (k : Nat) (n : ByteArray), entI k (l ++ [n]) = entI k l ++ [(.s n, aInt ((k + l.length : Nat) : Int))]
  | [], k, n => by simp [entI]
  | x :: l, k, n => by
    rw [List.cons_append, entI, entI_snoc l (k + 1) n, entI, List.cons_append, List.length_cons, show k + 1 + l.length = k + (l.length + 1) by omega]
theorem lookI_in {l : List ByteArray} {n : ByteArray} (ok : Bool) (h : posN l n < l.length) : lookA ok (aInt 0) (mGet (entI 0 l) (.s n)) = if ok then .tup [aInt (posN l n), aBool true] else aInt (posN l n) := by
  rw [mGet_entI, if_pos h, Nat.zero_add]
  rfl
theorem lookI_out {l : List ByteArray} {n : ByteArray} (ok : Bool) (h : ¬ posN l n < l.length) : lookA ok (aInt 0) (mGet (entI 0 l) (.s n)) = if ok then .tup [aInt 0, aBool false] else aInt 0 := by
  rw [mGet_entI, if_neg h]
  rfl
theorem putI_out {l : List ByteArray} {n : ByteArray} (h : ¬ posN l n < l.length) : mPut (entI 0 l) (.s n) (aInt l.length) = entI 0 (addN l n) := by
  rw [mPut_entI h, show addN l n = l ++ [n] by unfold addN; rw [if_neg h], entI_snoc, Nat.zero_add]
theorem back_S {t : Tm} (ht : TT t) : ∀ {l : List ByteArray} {a0 : Nat} {S : AStore}, 1000 ≤ a0 → l.length + t.size ≤ 1000000 → S a0 = some (mapI l) →
    ACallsS Tryz.prog 47 [aTm t, .one (.mptr a0)] S (aTy (t.bk l).1.ty) (updE S a0 (some (mapI (t.bk l).2))) := by
  induction ht with
  | @v n h1 h2 =>
    intro l a0 S ha hl hSa
    rw [bk_leaf]
    have hel := entI_len l 0
    have hlm : l.length ≤ maxLen := by rw [maxLen_eq]; simp only [Tm.size] at hl; omega
    have a2 : ¬ a0 = 2 := by omega
    have a4 : ¬ a0 = 4 := by omega
    have b2 : ¬ 2 = a0 := by omega
    have b4 : ¬ 4 = a0 := by omega
    refine acS_infer_back (Nat.le_of_ble_eq_true rfl) fun hS C hC => ?_
    have k2 : S 2 = none := clean_none hS (by omega)
    have k4 : S 4 = none := clean_none hS (by omega)
    unfold ir_infer_back
    by_cases hp : posN l n < l.length
    · have hadd : addN l n = l := by unfold addN; rw [if_pos hp]
      rw [hadd]
      have q1 := lookI_in true hp
      have q2 := lookI_in false hp
      repeat' (first | (with_reducible first | refine W ?_ | refine Wk (by decide) ?_) | ((with_reducible first | refine Wo (fun K hK => ?_) | refine Wp ?_ | refine Wq ?_ | refine Wr ?_); (try simp only [go_sem, fN, ↓gI, ↓pI, seval, eT, iR, k2, k4, a2, a4, b2, b4, hSa, mapOf, keyOf, KV.of, q1, q2, dT, dF, iL]); (repeat with_reducible refine And.intro (by first | omega | (with_reducible exact lens) | (simp [maxLen_eq] <;> omega)) ?_); (try (with_reducible refine hK _ ?_; clear hK K)); (try with_reducible refine iC ?_)))
      refine finS_one (.agg [.st (.int .i64 (posN l n : Int)), .full []]) hS ha rfl trivial ?_ ?_ ?_ fun i hi hne => ?_
      · simp only [go_sem, fN, ↓gI, ↓pI, seval, eT, iR, resAll, resOne, tupV]
      · simp only [go_sem, fN, ↓gI, ↓pI, seval, eT, iR]
        rfl
      · simp only [go_sem, fN, ↓gI, ↓pI, seval, eT, iR, a2, a4, hSa]
      · have i2 : ¬ i = 2 := by omega
        have i4 : ¬ i = 4 := by omega
        simp only [go_sem, fN, ↓gI, ↓pI, seval, eT, iR, i2, i4]
    · have hpn : posN l n = l.length := by have := posN_le l n; omega
      have hp2 : posN (addN l n) n < (addN l n).length := by
        unfold addN
        rw [if_neg hp, posN_snoc hp, List.length_append, List.length_singleton]
        omega
      have hp3 : posN (addN l n) n = l.length := by
        unfold addN
        rw [if_neg hp, posN_snoc hp]
      have q1 := lookI_out true hp
      have q2 := lookI_in false hp2
      rw [hp3] at q2
      have q3 := putI_out hp
      repeat' (first | (with_reducible first | refine W ?_ | refine Wk (by decide) ?_) | ((with_reducible first | refine Wo (fun K hK => ?_) | refine Wp ?_ | refine Wq ?_ | refine Wr ?_); (try simp only [go_sem, fN, ↓gI, ↓pI, seval, eT, iR, k2, k4, a2, a4, b2, b4, hSa, mapOf, keyOf, KV.of, q1, q2, q3, hel, hlm, dT, dF, iL]); (repeat with_reducible refine And.intro (by first | omega | (with_reducible exact lens) | (simp [maxLen_eq] <;> omega)) ?_); (try (with_reducible refine hK _ ?_; clear hK K)); (try with_reducible refine iC ?_)))
      rw [hpn]
      refine finS_one (.agg [.st (.int .i64 (l.length : Int)), .full []]) hS ha rfl trivial ?_ ?_ ?_ fun i hi hne => ?_
      · simp only [go_sem, fN, ↓gI, ↓pI, seval, eT, iR, resAll, resOne, tupV, a2, a4, b2, b4]
      · simp only [go_sem, fN, ↓gI, ↓pI, seval, eT, iR]
        rfl
      · simp only [go_sem, fN, ↓gI, ↓pI, seval, eT, iR, a2, a4, hSa]
      · have i2 : ¬ i = 2 := by omega
        have i4 : ¬ i = 4 := by omega
        simp only [go_sem, fN, ↓gI, ↓pI, seval, eT, iR, i2, i4, hne]
  | @f x y tx ty ix iy =>
    intro l a0 S ha hl hSa
    rw [bk_arr]
    rw [arrT_size] at hl
    have hg := bk_vars tx l
    have hlen : (x.bk l).2.length ≤ l.length + x.size := by rw [hg]; have := addVars_length x.knots l; rw [Tm.knots_length] at this; exact this
    have a2 : ¬ a0 = 2 := by omega
    have a4 : ¬ a0 = 4 := by omega
    have a7 : ¬ a0 = 7 := by omega
    have b2 : ¬ 2 = a0 := by omega
    have b4 : ¬ 4 = a0 := by omega
    have b7 : ¬ 7 = a0 := by omega
    refine acS_infer_back (Nat.le_of_ble_eq_true rfl) fun hS C hC => ?_
    have k2 : S 2 = none := clean_none hS (by omega)
    have k4 : S 4 = none := clean_none hS (by omega)
    have k7 : S 7 = none := clean_none hS (by omega)
    unfold ir_infer_back
    have n1 : (arrT x y).name = fS := rfl
    have n2 : (arrT x y).args = [x, y] := rfl
    repeat' (first | (with_reducible first | refine W ?_ | refine Wk (by decide) ?_) | ((with_reducible first | refine Wo (fun K hK => ?_) | refine Wp ?_ | refine Wq ?_ | refine Wr ?_); (try simp only [go_sem, fN, ↓gI, ↓pI, seval, eT, iR, k2, k4, k7, a2, a4, a7, b2, b4, b7, hSa, n1, n2, dT, dF, iL]); (repeat with_reducible refine And.intro (by first | omega | (with_reducible exact lens) | (simp [maxLen_eq] <;> omega)) ?_); (try (with_reducible refine hK _ ?_; clear hK K)); (try with_reducible refine iC ?_)))
    refine ⟨_, _, ix (l := l) (a0 := up1 a0) (up1_le _) (by omega) (by rw [upS_up]; (simp only [go_sem, fN, ↓gI, ↓pI, seval, eT, iR, a2, a4, hSa])), ?_⟩
    repeat' (first | (with_reducible first | refine W ?_ | refine Wk (by decide) ?_) | ((with_reducible first | refine Wo (fun K hK => ?_) | refine Wp ?_ | refine Wq ?_ | refine Wr ?_); (try simp only [go_sem, fN, ↓gI, ↓pI, seval, eT, iR, k2, k4, k7, a2, a4, a7, b2, b4, b7, hSa, dT, dF, iL]); (repeat with_reducible refine And.intro (by first | omega | (with_reducible exact lens) | (simp [maxLen_eq] <;> omega)) ?_); (try (with_reducible refine hK _ ?_; clear hK K)); (try with_reducible refine iC ?_)))
    refine ⟨_, _, iy (l := (x.bk l).2) (a0 := up1 a0) (up1_le _) (by omega) (by rw [upS_up]; (simp only [go_sem, fN, ↓gI, ↓pI, seval, eT, iR, a2, a4, a7])), ?_⟩
    repeat' (first | (with_reducible first | refine W ?_ | refine Wk (by decide) ?_) | ((with_reducible first | refine Wo (fun K hK => ?_) | refine Wp ?_ | refine Wq ?_ | refine Wr ?_); (try simp only [go_sem, fN, ↓gI, ↓pI, seval, eT, iR, k2, k4, k7, a2, a4, a7, b2, b4, b7, dT, dF, iL]); (repeat with_reducible refine And.intro (by first | omega | (with_reducible exact lens) | (simp [maxLen_eq] <;> omega)) ?_); (try (with_reducible refine hK _ ?_; clear hK K)); (try with_reducible refine iC ?_)))
    refine finS_one (.agg [.st (.int .i64 0), .full [encY (x.bk l).1.ty, encY (y.bk (x.bk l).2).1.ty]]) hS ha rfl trivial ?_ ?_ ?_ fun i hi hne => ?_
    · simp only [go_sem, fN, ↓gI, ↓pI, seval, eT, iR, resAll, resOne, tupV, b2, b4]
    · simp only [go_sem, fN, ↓gI, ↓pI, seval, eT, iR]
      show _ = AV.agg [.st (.int .i64 0), .st (.list [encY (x.bk l).1.ty, encY (y.bk (x.bk l).2).1.ty])]
      rw [encY_eq, encY_eq]
    · simp only [go_sem, fN, ↓gI, ↓pI, seval, eT, iR, a2, a4, a7]
    · have i2 : ¬ i = 2 := by omega
      have i4 : ¬ i = 4 := by omega
      have i7 : ¬ i = 7 := by omega
      simp only [go_sem, fN, ↓gI, ↓pI, seval, eT, iR, i2, i4, i7, hne]
theorem posN_get : ∀ {m : List ByteArray} {n x : ByteArray} {k : Nat}, m[k]? = some x → k ≤ posN m n → (x = n ↔ k = posN m n)
  | [], n, x, k, h, _ => by simp at h
  | y :: m, n, x, k, h, hk => by
    rw [posN] at hk ⊢
    by_cases e : y = n
    · rw [if_pos e] at hk ⊢
      obtain rfl : k = 0 := by omega
      simp at h
      subst h
      simp [e]
    · rw [if_neg e] at hk ⊢
      cases k with
      | zero =>
        simp at h
        subst h
        constructor
        · intro h; exact absurd h e
        · intro h; omega
      | succ k =>
        have := posN_get (m := m) (n := n) (k := k) (by simpa using h) (by omega)
        rw [this]
        omega
theorem asType_a {t : Tm} (ht : TT t) (m : List ByteArray) (hl : (t.asB m).low m.length) (hm : m.length ≤ 1000000) : ACalls Tryz.prog 40 [aTm t, aStrs m] (aTy (t.asB m).ty) := by
  induction ht with
  | @v n h1 h2 =>
    rw [asB_leaf] at hl ⊢
    have hl : posN m n < m.length := hl
    refine ac_R_AsType (Nat.le_of_ble_eq_true rfl) fun C hC => ?_
    unfold ir_R_AsType
    repeat' (first | (with_reducible first | refine W ?_ | refine Wk (by decide) ?_) | ((with_reducible first | refine Wo (fun K hK => ?_) | refine Wp ?_ | refine Wq ?_ | refine Wr ?_); (try simp only [go_sem, fN, ↓gI, ↓pI, seval, eT, iR, dT, dF, iL]); (repeat with_reducible refine And.intro (by first | omega | (with_reducible exact lens) | (simp [maxLen_eq] <;> omega)) ?_); (try (with_reducible refine hK _ ?_; clear hK K)); (try with_reducible refine iC ?_)))
    refine IWP.loopD [] (fun q s => ∃ k : Nat, k ≤ posN m n ∧ q = posN m n - k ∧ s.env 1 = aStrs m ∧ s.env 2 = .one (.ptr 2 1 0 0) ∧ s.env 4 = .one (.ptr 4 1 0 0) ∧ s.env 5 = aInt k ∧ s.S 2 = some (.box 69 [.st (.str n), .st (.list [])]) ∧ s.S 4 = some (.box 27 [.st (.int .i64 0), .full []])) (posN m n) ⟨0, Nat.zero_le _, rfl, rfl, rfl, rfl, rfl, rfl, rfl⟩ ?_
    rintro q ⟨env, S⟩ ⟨k, hk, rfl, e1, e2, e4, e5, s2, s4⟩
    simp only at e1 e2 e4 e5 s2 s4
    obtain ⟨x, hx⟩ := get_lt (show k < m.length by omega)
    have hiff := posN_get hx hk
    by_cases hxn : x = n
    · have hkp := hiff.1 hxn
      subst hxn
      repeat' (first | (with_reducible first | refine W ?_ | refine Wk (by decide) ?_) | ((with_reducible first | refine Wo (fun K hK => ?_) | refine Wp ?_ | refine Wq ?_ | refine Wr ?_); (try simp only [go_sem, fN, ↓gI, ↓pI, seval, eT, iR, e1, e2, e4, e5, s2, s4, hx, dT, dF, iL]); (repeat with_reducible refine And.intro (by first | omega | (with_reducible exact lens) | (simp [maxLen_eq] <;> omega)) ?_); (try (with_reducible refine hK _ ?_; clear hK K)); (try with_reducible refine iC ?_)))
      simp only [go_sem, fN, ↓gI, ↓pI, seval, FinQ, AS.result, resAll, resOne, tupV, e4, s4]
      rw [hkp]
      rfl
    · have hkp : ¬ k = posN m n := fun e => hxn (hiff.2 e)
      repeat' (first | (with_reducible first | refine W ?_ | refine Wk (by decide) ?_) | ((with_reducible first | refine Wo (fun K hK => ?_) | refine Wp ?_ | refine Wq ?_ | refine Wr ?_); (try simp only [go_sem, fN, ↓gI, ↓pI, seval, eT, iR, e1, e2, e4, e5, s2, s4, hx, hxn, dT, dF, iL]); (repeat with_reducible refine And.intro (by first | omega | (with_reducible exact lens) | (simp [maxLen_eq] <;> omega)) ?_); (try (with_reducible refine hK _ ?_; clear hK K)); (try with_reducible refine iC ?_)))
      refine then_normal ⟨posN m n - (k + 1), by omega, k + 1, by omega, rfl, ?_⟩
      simp only [go_sem, fN, ↓gI, ↓pI, seval, AS.drop, dropS, AC.clears, AC.clear, AC.highs, AC.high, Bool.not_false, Bool.true_and, Bool.and_self, AV.purge, AV.purges, AC.purge, ABlk.purge, List.contains_cons, List.contains_nil, Nat.reduceBEq, Bool.or_self, Bool.or_false, Bool.false_or, Bool.or_true, eT, iR, e1, e2, e4, e5, s2, s4]
      congr 3
  | @f x y tx ty ix iy =>
    rw [asB_arr] at hl ⊢
    have hx := ix hl.1
    have hy := iy hl.2
    have n1 : (arrT x y).name = fS := rfl
    have n2 : (arrT x y).args = [x, y] := rfl
    refine ac_R_AsType (Nat.le_of_ble_eq_true rfl) fun C hC => ?_
    unfold ir_R_AsType
    repeat' (first | (with_reducible first | refine W ?_ | refine Wk (by decide) ?_) | refine Cg _ (hx) ?_ | refine Cg _ (hy) ?_ | ((with_reducible first | refine Wo (fun K hK => ?_) | refine Wp ?_ | refine Wq ?_ | refine Wr ?_); (try simp only [go_sem, fN, ↓gI, ↓pI, seval, eT, iR, n1, n2, dT, dF, iL]); (repeat with_reducible refine And.intro (by first | omega | (with_reducible exact lens) | (simp [maxLen_eq] <;> omega)) ?_); (try (with_reducible refine hK _ ?_; clear hK K)); (try with_reducible refine iC ?_)))
    simp only [go_sem, fN, ↓gI, ↓pI, seval, FinQ, AS.result, resAll, resOne, tupV]
    show _ = AV.agg [.st (.int .i64 0), .st (.list [encY (x.asB m).ty, encY (y.asB m).ty])]
    rw [encY_eq, encY_eq]
structure RelE (env : Nat → Option BT) (hv kn : List (List SV)) : Prop where
  hl : hv.length = 2001
  kl : kn.length = 2001
  hw : ∀ x ∈ hv, x.length = 2
  kn : ∀ i, i < 2001 → kn[i]? = some [.bool (env i).isSome]
  hv : ∀ i b, i < 2001 → env i = some b → hv[i]? = some (encY b.ty)
abbrev tyT : TypeId := 27
abbrev boT : TypeId := 4
def csS (S : AStore) (h k : Nat) (hv kn : List (List SV)) : AStore := updE (updE S h (some (.mrow tyT 2 hv))) k (some (.mrow boT 1 kn))
def CaseC (p t : BT) (b : Bool) (hv kn hv' kn' : List (List SV)) : Prop :=
  ∀ (h k : Nat) (S : AStore), 1000 ≤ h → 1000 ≤ k → h ≠ k → S h = some (.mrow tyT 2 hv) → S k = some (.mrow boT 1 kn) →
    ACallsS Tryz.prog 48 [aTy p.ty, aTy t.ty, .one (.row h 2001), .one (.row k 2001)] S (aBool b) (csS S h k hv' kn')
theorem csS_end {C : Ctx} {rs : List RV} {r : AV} {e : AX} {s : AS} {S : AStore} {h k : Nat} {hv kn : List (List SV)} (rv : AV) (hS : Clean S) (hh : 1000 ≤ h) (hk : 1000 ≤ k) (hne : h ≠ k) (he : match e with | .normal => True | .ret => True | _ => False)
    (h1 : (resAll s rs).map tupV = some rv) (h2 : outV s.S rv = some r) (h3 : s.S h = some (.mrow tyT 2 hv)) (h3' : s.S k = some (.mrow boT 1 kn)) (h4 : ∀ i, 1000 ≤ i → i ≠ h → i ≠ k → s.S i = S i) : FinS C rs r (csS S h k hv kn) e s :=
  finS_two rv hS hh hk (fun e => hne e.symm) rfl rfl he h1 h2 h3 h3' h4
set_option maxHeartbeats 8000000 in
theorem typeCase_S (p : BT) (hp : p.low 2001) : ∀ (t : BT) {env : Nat → Option BT} {hv kn : List (List SV)}, RelE env hv kn → ∃ hv' kn', (∀ e, p.cs t env = some e → RelE e hv' kn') ∧ hv'.length = 2001 ∧ kn'.length = 2001 ∧ CaseC p t (p.cs t env).isSome hv kn hv' kn' := by
  induction p with
  | b n =>
    intro t env hv kn R
    have hp : n < 2001 := hp
    have hkn := R.kn n hp
    have hvl := R.hl
    have knl := R.kl
    obtain ⟨x0, hx0⟩ := get_lt (show n < hv.length by omega)
    obtain ⟨u0, v0, rfl⟩ := list_two (R.hw x0 (mem_of_get hx0))
    rw [BT.cs]
    cases he : env n with
    | some x =>
      rw [he] at hkn
      have hxv := R.hv n x hp he
      rw [hx0] at hxv
      simp only [encY_eq, Option.some.injEq, List.cons.injEq, and_true] at hxv
      obtain ⟨rfl, rfl⟩ := hxv
      refine ⟨hv, kn, fun e hh => ?_, hvl, knl, ?_⟩
      · simp only at hh
        split at hh
        · cases hh; exact R
        · cases hh
      · intro h k S hh hk hne hSh hSk
        have hne2 : ¬ k = h := fun e => hne e.symm
        have h4 : ¬ h = 4 := by omega
        have h5 : ¬ h = 5 := by omega
        have k4 : ¬ k = 4 := by omega
        have k5 : ¬ k = 5 := by omega
        refine acS_R_TypeCase (Nat.le_of_ble_eq_true rfl) fun hS C hC => ?_
        have s4 : S 4 = none := clean_none hS (by omega)
        have s5 : S 5 = none := clean_none hS (by omega)
        have hn2 : n < kn.length := by omega
        have hn3 : n < hv.length := by omega
        unfold ir_R_TypeCase
        repeat' (first | (with_reducible first | refine W ?_ | refine Wk (by decide) ?_) | refine Cg _ (sameTy_a x t) ?_ | ((with_reducible first | refine Wo (fun K hK => ?_) | refine Wp ?_ | refine Wq ?_ | refine Wr ?_); (try simp only [go_sem, fN, ↓gI, ↓pI, seval, eT, iR, s4, s5, h4, h5, k4, k5, hSh, hSk, hkn, hvl, knl, hx0, hp, Option.isSome_some, Option.isSome_none, dT, dF, iL]); (repeat with_reducible refine And.intro (by first | omega | (with_reducible exact lens) | (simp [maxLen_eq] <;> omega)) ?_); (try (with_reducible refine hK _ ?_; clear hK K)); (try with_reducible refine iC ?_)))
        refine csS_end (aBool (decide (x = t))) hS hh hk hne trivial ?_ ?_ ?_ ?_ fun i hi i1 i2 => ?_
        · simp only [go_sem, fN, ↓gI, ↓pI, seval, eT, iR, resAll, resOne, tupV]
        · simp only [go_sem, fN, ↓gI, ↓pI, seval, eT, iR]
          by_cases hxt : x = t <;> simp [hxt]
        · simp only [go_sem, fN, ↓gI, ↓pI, seval, eT, iR, h4, h5, hSh]
        · simp only [go_sem, fN, ↓gI, ↓pI, seval, eT, iR, k4, k5, hSk]
        · have i4 : ¬ i = 4 := by omega
          have i5 : ¬ i = 5 := by omega
          simp only [go_sem, fN, ↓gI, ↓pI, seval, eT, iR, i4, i5]
    | none =>
      rw [he] at hkn
      refine ⟨hv.set n (encY t.ty), kn.set n [.bool true], fun e hh => ?_, by rw [List.length_set]; exact hvl, by rw [List.length_set]; exact knl, ?_⟩
      · simp only [Option.some.injEq] at hh
        subst hh
        refine ⟨by rw [List.length_set]; exact hvl, by rw [List.length_set]; exact knl, fun x hx => ?_, fun i hi => ?_, fun i b hi hb => ?_⟩
        · rcases List.mem_or_eq_of_mem_set hx with hx | rfl
          · exact R.hw x hx
          · rw [encY_eq]; rfl
        · by_cases e : i = n
          · subst e
            rw [List.getElem?_set_self (by omega), if_pos rfl]
            rfl
          · rw [List.getElem?_set_ne (fun e' => e e'.symm), if_neg e, R.kn i hi]
        · by_cases e : i = n
          · subst e
            rw [if_pos rfl] at hb
            cases hb
            rw [List.getElem?_set_self (by omega)]
          · rw [if_neg e] at hb
            rw [List.getElem?_set_ne (fun e' => e e'.symm), R.hv i b hi hb]
      · intro h k S hh hk hne hSh hSk
        have hne2 : ¬ k = h := fun e => hne e.symm
        have h4 : ¬ h = 4 := by omega
        have h5 : ¬ h = 5 := by omega
        have k4 : ¬ k = 4 := by omega
        have k5 : ¬ k = 5 := by omega
        have q4 : ¬ 4 = h := by omega
        have q5 : ¬ 5 = h := by omega
        have p4 : ¬ 4 = k := by omega
        have p5 : ¬ 5 = k := by omega
        refine acS_R_TypeCase (Nat.le_of_ble_eq_true rfl) fun hS C hC => ?_
        have s4 : S 4 = none := clean_none hS (by omega)
        have s5 : S 5 = none := clean_none hS (by omega)
        unfold ir_R_TypeCase
        repeat' (first | (with_reducible first | refine W ?_ | refine Wk (by decide) ?_) | ((with_reducible first | refine Wo (fun K hK => ?_) | refine Wp ?_ | refine Wq ?_ | refine Wr ?_); (try simp only [go_sem, fN, ↓gI, ↓pI, seval, eT, iR, s4, s5, h4, h5, k4, k5, q4, q5, p4, p5, hne, hne2, hSh, hSk, hkn, hvl, knl, hx0, hp, Option.isSome_some, Option.isSome_none, List.length_set, dT, dF, iL]); (repeat with_reducible refine And.intro (by first | omega | (with_reducible exact lens) | (simp [maxLen_eq] <;> omega)) ?_); (try (with_reducible refine hK _ ?_; clear hK K)); (try with_reducible refine iC ?_)))
        refine csS_end (aBool true) hS hh hk hne trivial ?_ ?_ ?_ ?_ fun i hi i1 i2 => ?_
        · simp only [go_sem, fN, ↓gI, ↓pI, seval, eT, iR, resAll, resOne, tupV]
        · simp only [go_sem, fN, ↓gI, ↓pI, seval, eT, iR]
          try rfl
        · simp only [go_sem, fN, ↓gI, ↓pI, seval, eT, iR, h4, h5, hne, hSh]
        · simp only [go_sem, fN, ↓gI, ↓pI, seval, eT, iR, k4, k5, hne2, hSk]
        · have i4 : ¬ i = 4 := by omega
          have i5 : ¬ i = 5 := by omega
          simp only [go_sem, fN, ↓gI, ↓pI, seval, eT, iR, i1, i2, i4, i5]
  | a x y ix iy =>
    intro t env hv kn R
    have hvl := R.hl
    have knl := R.kl
    cases t with
    | b n =>
      rw [BT.cs]
      refine ⟨hv, kn, fun e hh => (by cases hh), hvl, knl, ?_⟩
      intro h k S hh hk hne hSh hSk
      have h4 : ¬ h = 4 := by omega
      have h5 : ¬ h = 5 := by omega
      have k4 : ¬ k = 4 := by omega
      have k5 : ¬ k = 5 := by omega
      refine acS_R_TypeCase (Nat.le_of_ble_eq_true rfl) fun hS C hC => ?_
      have s4 : S 4 = none := clean_none hS (by omega)
      have s5 : S 5 = none := clean_none hS (by omega)
      unfold ir_R_TypeCase
      repeat' (first | (with_reducible first | refine W ?_ | refine Wk (by decide) ?_) | ((with_reducible first | refine Wo (fun K hK => ?_) | refine Wp ?_ | refine Wq ?_ | refine Wr ?_); (try simp only [go_sem, fN, ↓gI, ↓pI, seval, eT, iR, s4, s5, h4, h5, k4, k5, hSh, hSk, dT, dF, iL]); (repeat with_reducible refine And.intro (by first | omega | (with_reducible exact lens) | (simp [maxLen_eq] <;> omega)) ?_); (try (with_reducible refine hK _ ?_; clear hK K)); (try with_reducible refine iC ?_)))
      refine csS_end (aBool false) hS hh hk hne trivial ?_ ?_ ?_ ?_ fun i hi i1 i2 => ?_
      · simp only [go_sem, fN, ↓gI, ↓pI, seval, eT, iR, resAll, resOne, tupV]
      · simp only [go_sem, fN, ↓gI, ↓pI, seval, eT, iR]
        try rfl
      · simp only [go_sem, fN, ↓gI, ↓pI, seval, eT, iR, h4, h5, hSh]
      · simp only [go_sem, fN, ↓gI, ↓pI, seval, eT, iR, k4, k5, hSk]
      · have i4 : ¬ i = 4 := by omega
        have i5 : ¬ i = 5 := by omega
        simp only [go_sem, fN, ↓gI, ↓pI, seval, eT, iR, i4, i5]
    | a u v =>
      obtain ⟨hv1, kn1, r1, l1, m1, c1⟩ := ix hp.1 u R
      cases hc : x.cs u env with
      | none =>
        rw [hc] at c1
        rw [BT.cs, hc]
        refine ⟨hv1, kn1, fun e hh => (by cases hh), l1, m1, ?_⟩
        intro h k S hh hk hne hSh hSk
        have hne2 : ¬ k = h := fun e => hne e.symm
        have h4 : ¬ h = 4 := by omega
        have h5 : ¬ h = 5 := by omega
        have k4 : ¬ k = 4 := by omega
        have k5 : ¬ k = 5 := by omega
        have q4 : ¬ 4 = h := by omega
        have q5 : ¬ 5 = h := by omega
        have p4 : ¬ 4 = k := by omega
        have p5 : ¬ 5 = k := by omega
        refine acS_R_TypeCase (Nat.le_of_ble_eq_true rfl) fun hS C hC => ?_
        have s4 : S 4 = none := clean_none hS (by omega)
        have s5 : S 5 = none := clean_none hS (by omega)
        unfold ir_R_TypeCase
        repeat' (first | (with_reducible first | refine W ?_ | refine Wk (by decide) ?_) | ((with_reducible first | refine Wo (fun K hK => ?_) | refine Wp ?_ | refine Wq ?_ | refine Wr ?_); (try simp only [go_sem, fN, ↓gI, ↓pI, seval, eT, iR, s4, s5, h4, h5, k4, k5, hSh, hSk, dT, dF, iL]); (repeat with_reducible refine And.intro (by first | omega | (with_reducible exact lens) | (simp [maxLen_eq] <;> omega)) ?_); (try (with_reducible refine hK _ ?_; clear hK K)); (try with_reducible refine iC ?_)))
        refine ⟨_, _, c1 (up1 h) (up1 k) _ (up1_le _) (up1_le _) (fun e => hne (Nat.add_right_cancel e)) (by rw [upS_up]; (simp only [go_sem, fN, ↓gI, ↓pI, seval, eT, iR, h4, h5, hSh]; try rfl)) (by rw [upS_up]; (simp only [go_sem, fN, ↓gI, ↓pI, seval, eT, iR, k4, k5, hSk]; try rfl)), ?_⟩
        repeat' (first | (with_reducible first | refine W ?_ | refine Wk (by decide) ?_) | ((with_reducible first | refine Wo (fun K hK => ?_) | refine Wp ?_ | refine Wq ?_ | refine Wr ?_); (try simp only [go_sem, fN, ↓gI, ↓pI, seval, eT, iR, csS, s4, s5, h4, h5, k4, k5, q4, q5, p4, p5, hne, hne2, Option.isSome_none, dT, dF, iL]); (repeat with_reducible refine And.intro (by first | omega | (with_reducible exact lens) | (simp [maxLen_eq] <;> omega)) ?_); (try (with_reducible refine hK _ ?_; clear hK K)); (try with_reducible refine iC ?_)))
        refine csS_end (aBool false) hS hh hk hne trivial ?_ ?_ ?_ ?_ fun i hi i1 i2 => ?_
        · simp only [go_sem, fN, ↓gI, ↓pI, seval, eT, iR, resAll, resOne, tupV]
        · simp only [go_sem, fN, ↓gI, ↓pI, seval, eT, iR]
          try rfl
        · simp only [go_sem, fN, ↓gI, ↓pI, seval, eT, iR, h4, h5, hne]
        · simp only [go_sem, fN, ↓gI, ↓pI, seval, eT, iR, k4, k5, hne2]
        · have i4 : ¬ i = 4 := by omega
          have i5 : ¬ i = 5 := by omega
          simp only [go_sem, fN, ↓gI, ↓pI, seval, eT, iR, i1, i2, i4, i5]
      | some e1 =>
        rw [hc] at c1
        obtain ⟨hv2, kn2, r2, l2, m2, c2⟩ := iy hp.2 v (r1 e1 hc)
        rw [BT.cs, hc]
        refine ⟨hv2, kn2, r2, l2, m2, ?_⟩
        intro h k S hh hk hne hSh hSk
        have hne2 : ¬ k = h := fun e => hne e.symm
        have h4 : ¬ h = 4 := by omega
        have h5 : ¬ h = 5 := by omega
        have k4 : ¬ k = 4 := by omega
        have k5 : ¬ k = 5 := by omega
        have q4 : ¬ 4 = h := by omega
        have q5 : ¬ 5 = h := by omega
        have p4 : ¬ 4 = k := by omega
        have p5 : ¬ 5 = k := by omega
        refine acS_R_TypeCase (Nat.le_of_ble_eq_true rfl) fun hS C hC => ?_
        have s4 : S 4 = none := clean_none hS (by omega)
        have s5 : S 5 = none := clean_none hS (by omega)
        unfold ir_R_TypeCase
        repeat' (first | (with_reducible first | refine W ?_ | refine Wk (by decide) ?_) | ((with_reducible first | refine Wo (fun K hK => ?_) | refine Wp ?_ | refine Wq ?_ | refine Wr ?_); (try simp only [go_sem, fN, ↓gI, ↓pI, seval, eT, iR, s4, s5, h4, h5, k4, k5, hSh, hSk, dT, dF, iL]); (repeat with_reducible refine And.intro (by first | omega | (with_reducible exact lens) | (simp [maxLen_eq] <;> omega)) ?_); (try (with_reducible refine hK _ ?_; clear hK K)); (try with_reducible refine iC ?_)))
        refine ⟨_, _, c1 (up1 h) (up1 k) _ (up1_le _) (up1_le _) (fun e => hne (Nat.add_right_cancel e)) (by rw [upS_up]; (simp only [go_sem, fN, ↓gI, ↓pI, seval, eT, iR, h4, h5, hSh]; try rfl)) (by rw [upS_up]; (simp only [go_sem, fN, ↓gI, ↓pI, seval, eT, iR, k4, k5, hSk]; try rfl)), ?_⟩
        repeat' (first | (with_reducible first | refine W ?_ | refine Wk (by decide) ?_) | ((with_reducible first | refine Wo (fun K hK => ?_) | refine Wp ?_ | refine Wq ?_ | refine Wr ?_); (try simp only [go_sem, fN, ↓gI, ↓pI, seval, eT, iR, csS, s4, s5, h4, h5, k4, k5, q4, q5, p4, p5, hne, hne2, Option.isSome_some, dT, dF, iL]); (repeat with_reducible refine And.intro (by first | omega | (with_reducible exact lens) | (simp [maxLen_eq] <;> omega)) ?_); (try (with_reducible refine hK _ ?_; clear hK K)); (try with_reducible refine iC ?_)))
        refine ⟨_, _, c2 (up1 h) (up1 k) _ (up1_le _) (up1_le _) (fun e => hne (Nat.add_right_cancel e)) (by rw [upS_up]; (simp only [go_sem, fN, ↓gI, ↓pI, seval, eT, iR, h4, h5, hne]; try rfl)) (by rw [upS_up]; (simp only [go_sem, fN, ↓gI, ↓pI, seval, eT, iR, k4, k5, hne2]; try rfl)), ?_⟩
        repeat' (first | (with_reducible first | refine W ?_ | refine Wk (by decide) ?_) | ((with_reducible first | refine Wo (fun K hK => ?_) | refine Wp ?_ | refine Wq ?_ | refine Wr ?_); (try simp only [go_sem, fN, ↓gI, ↓pI, seval, eT, iR, csS, s4, s5, h4, h5, k4, k5, q4, q5, p4, p5, hne, hne2, dT, dF, iL]); (repeat with_reducible refine And.intro (by first | omega | (with_reducible exact lens) | (simp [maxLen_eq] <;> omega)) ?_); (try (with_reducible refine hK _ ?_; clear hK K)); (try with_reducible refine iC ?_)))
        refine csS_end (aBool (y.cs v e1).isSome) hS hh hk hne trivial ?_ ?_ ?_ ?_ fun i hi i1 i2 => ?_
        · simp only [go_sem, fN, ↓gI, ↓pI, seval, eT, iR, resAll, resOne, tupV]
        · simp only [go_sem, fN, ↓gI, ↓pI, seval, eT, iR]
          try rfl
        · simp only [go_sem, fN, ↓gI, ↓pI, seval, eT, iR, h4, h5, hne]
        · simp only [go_sem, fN, ↓gI, ↓pI, seval, eT, iR, k4, k5, hne2]
        · have i4 : ¬ i = 4 := by omega
          have i5 : ¬ i = 5 := by omega
          simp only [go_sem, fN, ↓gI, ↓pI, seval, eT, iR, i1, i2, i4, i5]
theorem relE_start : RelE (fun _ => none) (List.replicate 2001 [.int .i64 0, .list []]) (List.replicate 2001 [.bool false]) := by
  refine ⟨List.length_replicate, List.length_replicate, fun x hx => ?_, fun i hi => ?_, fun i b hi hb => by cases hb⟩
  · rw [List.eq_of_mem_replicate hx]; rfl
  · rw [List.getElem?_replicate, if_pos hi]; rfl
theorem caseOfType_a (p t : BT) (hp : p.low 2001) : ACalls Tryz.prog 19 [aTy p.ty, aTy t.ty] (aBool (isCaseB p t)) := by
  obtain ⟨hv1, kn1, r1, l1, m1, c1⟩ := typeCase_S p hp t relE_start
  refine ac_R_CaseOfType (Nat.le_of_ble_eq_true rfl) fun C hC => ?_
  unfold ir_R_CaseOfType
  repeat' (first | (with_reducible first | refine W ?_ | refine Wk (by decide) ?_) | ((with_reducible first | refine Wo (fun K hK => ?_) | refine Wp ?_ | refine Wq ?_ | refine Wr ?_); (try simp only [go_sem, fN, ↓gI, ↓pI, seval, eT, iR, -List.reduceReplicate, dT, dF, iL]); (repeat with_reducible refine And.intro (by first | omega | (with_reducible exact lens) | (simp [maxLen_eq] <;> omega)) ?_); (try (with_reducible refine hK _ ?_; clear hK K)); (try with_reducible refine iC ?_)))
  refine ⟨_, _, c1 (up1 7) (up1 8) _ (up1_le _) (up1_le _) (by decide) (by rw [upS_up]; (simp only [go_sem, fN, ↓gI, ↓pI, seval, eT, iR, -List.reduceReplicate]; try rfl)) (by rw [upS_up]; (simp only [go_sem, fN, ↓gI, ↓pI, seval, eT, iR, -List.reduceReplicate]; try rfl)), ?_⟩
  repeat' (first | (with_reducible first | refine W ?_ | refine Wk (by decide) ?_) | ((with_reducible first | refine Wo (fun K hK => ?_) | refine Wp ?_ | refine Wq ?_ | refine Wr ?_); (try simp only [go_sem, fN, ↓gI, ↓pI, seval, eT, iR, -List.reduceReplicate, dT, dF, iL]); (repeat with_reducible refine And.intro (by first | omega | (with_reducible exact lens) | (simp [maxLen_eq] <;> omega)) ?_); (try (with_reducible refine hK _ ?_; clear hK K)); (try with_reducible refine iC ?_)))
  simp only [go_sem, fN, ↓gI, ↓pI, seval, FinQ, AS.result, resAll, resOne, tupV, -List.reduceReplicate]
  rfl
end Go.Proofs.YtehnjhkndbcmgaaGreatDoor

namespace Go.Proofs.YtehnjhkndbcmgaaGreatDoor
open Go Go.RowKit
set_option maxRecDepth 100000
def ir_R_For : IR :=
  (.seq (.ops [.i 4 (.alloc 69 [.st (.str (ByteArray.mk (#[]))), .full []]), .i 5 (.mov (.c (.one (.st (.bool false)))))]) (.seq (.seq (.ops [.i 6 (.mov (.n 0))]) (.block 0 (.loop (.seq (.seq (.ops [.i 7 (.mov (.t 6)), .i 8 (.mov (.t 0)), .i 9 (.len false (.t 8)), .i 10 (.bin .lss (.t 7) (.t 9))]) (.cond (.t 10) .skip (.exit 0))) (.seq (.block 1 (.seq (.ops [.i 13 (.mov (.t 0)), .i 14 (.mov (.t 6)), .i 15 (.indexAddr 3 (.t 13) (.t 14)), .i 16 (.fieldAddr 0 (.t 15)), .i 17 (.load false 1 (.t 16)), .i 18 (.mov (.t 1)), .i 19 (.bin .eql (.t 17) (.t 18))]) (.cond (.t 19) (.seq (.ops [.i 20 (.mov (.t 0)), .i 21 (.mov (.t 6)), .i 22 (.indexAddr 3 (.t 20) (.t 21)), .i 23 (.fieldAddr 1 (.t 22)), .i 24 (.load true 2 (.t 23)), .mk none none (.store 2 (.t 4) (.t 24)) .no, .i 5 (.mov (.c (.one (.st (.bool true)))))]) .ret) .skip))) (.ops [.i 11 (.mov (.t 6)), .i 12 (.bin .add (.t 11) (.n 1)), .i 6 (.mov (.t 12))])))))) (.seq (.ops [.i 25 (.build [.st (.str (ByteArray.mk (#[]))), .full []] []), .mk none none (.store 2 (.t 4) (.t 25)) .no, .i 5 (.mov (.c (.one (.st (.bool false)))))]) .ret)))
theorem tr_R_For : trCode Tryz.prog 26 [] (Tryz.f104.body.getD .skip) = some ir_R_For := by kernel_rfl
theorem ac_R_For {xs : List AV} {r : AV} (hn : xs.length ≤ 26) (h : ∀ C : Ctx, C.n = 26 → IWP Tryz.prog C [] ir_R_For (FinQ [.cell 4 true 2, .t 5] r) (AS.start xs)) : ACalls Tryz.prog 104 xs r :=
  acalls_of Tryz.func104 rfl tr_R_For rfl hn h
def ir_R_grown : IR :=
  (.seq (.ops [.i 4 (.box 69 (.t 1)), .i 6 (.mov (.n 0))]) (.seq (.ops [.i 12 (.mov (.t 0)), .i 13 (.fieldAddr 0 (.t 4)), .i 14 (.load false 1 (.t 13)), .i 15 (.call 104 [.t 12, .t 14]), .i 11 (.mov (.t 15)), .i 16 (.extract 0 (.t 11)), .i 17 (.extract 1 (.t 11)), .i 7 (.alloc 69 [.st (.str (ByteArray.mk (#[]))), .full []]), .mk none none (.store 2 (.t 7) (.t 16)) .no, .i 8 (.mov (.t 17))]) (.seq (.seq (.ops [.i 18 (.mov (.t 8)), .i 19 (.mov (.t 18)), .mk (some 20) (some (19, true)) (.fieldAddr 1 (.t 4)) .no, .mk (some 21) (some (19, true)) (.load false 1 (.t 20)) .no, .mk (some 22) (some (19, true)) (.len false (.t 21)) .no, .mk (some 23) (some (19, true)) (.bin .eql (.t 22) (.n 0)) .no, .i 24 (.pick (.t 19) (.t 23) (.c (.one (.st (.bool false)))))]) (.cond (.t 24) (.seq (.ops [.i 25 (.load true 2 (.t 7)), .i 26 (.mov (.t 2)), .i 27 (.call 105 [.t 25, .t 26]), .i 6 (.mov (.t 27))]) .ret) .skip)) (.seq (.ops [.i 9 (.mov (.n 1))]) (.seq (.seq (.ops [.i 10 (.mov (.n 0))]) (.block 0 (.loop (.seq (.seq (.ops [.i 28 (.mov (.t 10)), .i 29 (.fieldAddr 1 (.t 4)), .i 30 (.load false 1 (.t 29)), .i 31 (.len false (.t 30)), .i 32 (.bin .lss (.t 28) (.t 31)), .i 33 (.mov (.t 32)), .mk (some 34) (some (33, true)) (.mov (.t 9)) .no, .mk (some 35) (some (33, true)) (.mov (.t 2)) .no, .mk (some 36) (some (33, true)) (.bin .leq (.t 34) (.t 35)) .no, .i 37 (.pick (.t 33) (.t 36) (.c (.one (.st (.bool false)))))]) (.cond (.t 37) .skip (.exit 0))) (.seq (.block 1 (.ops [.i 40 (.mov (.t 9)), .i 41 (.mov (.t 0)), .i 42 (.fieldAddr 1 (.t 4)), .i 43 (.load false 1 (.t 42)), .i 44 (.mov (.t 10)), .i 45 (.indexAddr 2 (.t 43) (.t 44)), .i 46 (.load true 2 (.t 45)), .i 47 (.mov (.t 2)), .i 48 (.mov (.t 9)), .i 49 (.bin .sub (.t 47) (.t 48)), .i 50 (.call 72 [.t 41, .t 46, .t 49]), .i 51 (.bin .add (.t 40) (.t 50)), .i 9 (.mov (.t 51))])) (.ops [.i 38 (.mov (.t 10)), .i 39 (.bin .add (.t 38) (.n 1)), .i 10 (.mov (.t 39))])))))) (.seq (.seq (.ops [.i 52 (.mov (.t 9)), .i 53 (.mov (.t 2)), .i 54 (.bin .gtr (.t 52) (.t 53))]) (.cond (.t 54) (.seq (.ops [.i 55 (.mov (.t 2)), .i 56 (.bin .add (.t 55) (.n 1)), .i 6 (.mov (.t 56))]) .ret) .skip)) (.seq (.ops [.i 57 (.mov (.t 9)), .i 6 (.mov (.t 57))]) .ret)))))))
theorem tr_R_grown : trCode Tryz.prog 58 [] (Tryz.f72.body.getD .skip) = some ir_R_grown := by kernel_rfl
theorem ac_R_grown {xs : List AV} {r : AV} (hn : xs.length ≤ 58) (h : ∀ C : Ctx, C.n = 58 → IWP Tryz.prog C [] ir_R_grown (FinQ [.t 6] r) (AS.start xs)) : ACalls Tryz.prog 72 xs r :=
  acalls_of Tryz.func72 rfl tr_R_grown rfl hn h
def ir_R_on : IR :=
  (.seq (.ops [.i 3 (.box 69 (.t 1)), .i 4 (.alloc 69 [.st (.str (ByteArray.mk (#[]))), .full []])]) (.seq (.ops [.i 10 (.mov (.t 0)), .i 11 (.fieldAddr 0 (.t 3)), .i 12 (.load false 1 (.t 11)), .i 13 (.call 104 [.t 10, .t 12]), .i 9 (.mov (.t 13)), .i 14 (.extract 0 (.t 9)), .i 15 (.extract 1 (.t 9)), .i 5 (.alloc 69 [.st (.str (ByteArray.mk (#[]))), .full []]), .mk none none (.store 2 (.t 5) (.t 14)) .no, .i 6 (.mov (.t 15))]) (.seq (.seq (.ops [.i 16 (.mov (.t 6)), .i 17 (.mov (.t 16)), .mk (some 18) (some (17, true)) (.fieldAddr 1 (.t 3)) .no, .mk (some 19) (some (17, true)) (.load false 1 (.t 18)) .no, .mk (some 20) (some (17, true)) (.len false (.t 19)) .no, .mk (some 21) (some (17, true)) (.bin .eql (.t 20) (.n 0)) .no, .i 22 (.pick (.t 17) (.t 21) (.c (.one (.st (.bool false)))))]) (.cond (.t 22) (.seq (.ops [.i 23 (.load true 2 (.t 5)), .mk none none (.store 2 (.t 4) (.t 23)) .no]) .ret) .skip)) (.seq (.ops [.i 24 (.fieldAddr 0 (.t 3)), .i 25 (.load false 1 (.t 24)), .i 26 (.build [.st (.str (ByteArray.mk (#[]))), .full []] [(0, 1, .t 25)]), .i 7 (.alloc 69 [.st (.str (ByteArray.mk (#[]))), .full []]), .mk none none (.store 2 (.t 7) (.t 26)) .no]) (.seq (.seq (.ops [.i 8 (.mov (.n 0))]) (.block 0 (.loop (.seq (.seq (.ops [.i 27 (.mov (.t 8)), .i 28 (.fieldAddr 1 (.t 3)), .i 29 (.load false 1 (.t 28)), .i 30 (.len false (.t 29)), .i 31 (.bin .lss (.t 27) (.t 30))]) (.cond (.t 31) .skip (.exit 0))) (.seq (.block 1 (.ops [.i 34 (.fieldAddr 1 (.t 7)), .i 35 (.load false 1 (.t 34)), .i 36 (.mov (.t 0)), .i 37 (.fieldAddr 1 (.t 3)), .i 38 (.load false 1 (.t 37)), .i 39 (.mov (.t 8)), .i 40 (.indexAddr 2 (.t 38) (.t 39)), .i 41 (.load true 2 (.t 40)), .i 42 (.call 73 [.t 36, .t 41]), .i 43 (.buildSlice false 69 2 [.t 42]), .i 44 (.append false 69 2 40 (.t 35) (.t 43)), .i 45 (.fieldAddr 1 (.t 7)), .mk none none (.store 1 (.t 45) (.t 44)) .no])) (.ops [.i 32 (.mov (.t 8)), .i 33 (.bin .add (.t 32) (.n 1)), .i 8 (.mov (.t 33))])))))) (.seq (.ops [.i 46 (.load true 2 (.t 7)), .mk none none (.store 2 (.t 4) (.t 46)) .no]) .ret))))))
theorem tr_R_on : trCode Tryz.prog 47 [] (Tryz.f73.body.getD .skip) = some ir_R_on := by kernel_rfl
theorem ac_R_on {xs : List AV} {r : AV} (hn : xs.length ≤ 47) (h : ∀ C : Ctx, C.n = 47 → IWP Tryz.prog C [] ir_R_on (FinQ [.cell 4 true 2] r) (AS.start xs)) : ACalls Tryz.prog 73 xs r :=
  acalls_of Tryz.func73 rfl tr_R_on rfl hn h
def ir_R_On : IR :=
  (.seq (.ops [.i 3 (.box 69 (.t 1)), .i 4 (.alloc 69 [.st (.str (ByteArray.mk (#[]))), .full []]), .i 5 (.mov (.c (.one (.st (.bool false)))))]) (.seq (.seq (.ops [.i 6 (.mov (.t 0)), .i 7 (.load true 2 (.t 3)), .i 8 (.call 72 [.t 6, .t 7, .n 2000]), .i 9 (.bin .gtr (.t 8) (.n 2000))]) (.cond (.t 9) (.seq (.ops [.i 10 (.build [.st (.str (ByteArray.mk (#[]))), .full []] []), .mk none none (.store 2 (.t 4) (.t 10)) .no, .i 5 (.mov (.c (.one (.st (.bool false)))))]) .ret) .skip)) (.seq (.ops [.i 11 (.mov (.t 0)), .i 12 (.load true 2 (.t 3)), .i 13 (.call 73 [.t 11, .t 12]), .mk none none (.store 2 (.t 4) (.t 13)) .no, .i 5 (.mov (.c (.one (.st (.bool true)))))]) .ret)))
theorem tr_R_On : trCode Tryz.prog 14 [] (Tryz.f39.body.getD .skip) = some ir_R_On := by kernel_rfl
theorem ac_R_On {xs : List AV} {r : AV} (hn : xs.length ≤ 14) (h : ∀ C : Ctx, C.n = 14 → IWP Tryz.prog C [] ir_R_On (FinQ [.cell 4 true 2, .t 5] r) (AS.start xs)) : ACalls Tryz.prog 39 xs r :=
  acalls_of Tryz.func39 rfl tr_R_On rfl hn h
def ir_cmp_isNaN_string : IR :=
  (.seq (.ops [.i 2 (.mov (.c (.one (.st (.bool false)))))]) (.seq (.ops [.i 3 (.mov (.t 0)), .i 4 (.mov (.t 0)), .i 5 (.bin .neq (.t 3) (.t 4)), .i 2 (.mov (.t 5))]) .ret))
theorem tr_cmp_isNaN_string : trCode Tryz.prog 6 [] (Tryz.f123.body.getD .skip) = some ir_cmp_isNaN_string := by kernel_rfl
theorem ac_cmp_isNaN_string {xs : List AV} {r : AV} (hn : xs.length ≤ 6) (h : ∀ C : Ctx, C.n = 6 → IWP Tryz.prog C [] ir_cmp_isNaN_string (FinQ [.t 2] r) (AS.start xs)) : ACalls Tryz.prog 123 xs r :=
  acalls_of Tryz.func123 rfl tr_cmp_isNaN_string rfl hn h
def ir_cmp_Compare_string : IR :=
  (.seq (.ops [.i 4 (.mov (.n 0))]) (.seq (.ops [.i 7 (.mov (.t 0)), .i 8 (.call 123 [.t 7]), .i 5 (.mov (.t 8))]) (.seq (.ops [.i 9 (.mov (.t 1)), .i 10 (.call 123 [.t 9]), .i 6 (.mov (.t 10))]) (.seq (.seq (.ops [.i 11 (.mov (.t 5))]) (.cond (.t 11) (.seq (.seq (.ops [.i 12 (.mov (.t 6))]) (.cond (.t 12) (.seq (.ops [.i 4 (.mov (.n 0))]) .ret) .skip)) (.seq (.ops [.i 4 (.mov (.c (.one (.st (.int .i64 (-1))))))]) .ret)) .skip)) (.seq (.seq (.ops [.i 13 (.mov (.t 6))]) (.cond (.t 13) (.seq (.ops [.i 4 (.mov (.n 1))]) .ret) .skip)) (.seq (.seq (.ops [.i 14 (.mov (.t 0)), .i 15 (.mov (.t 1)), .i 16 (.bin .lss (.t 14) (.t 15))]) (.cond (.t 16) (.seq (.ops [.i 4 (.mov (.c (.one (.st (.int .i64 (-1))))))]) .ret) .skip)) (.seq (.seq (.ops [.i 17 (.mov (.t 0)), .i 18 (.mov (.t 1)), .i 19 (.bin .gtr (.t 17) (.t 18))]) (.cond (.t 19) (.seq (.ops [.i 4 (.mov (.n 1))]) .ret) .skip)) (.seq (.ops [.i 4 (.mov (.n 0))]) .ret))))))))
theorem tr_cmp_Compare_string : trCode Tryz.prog 20 [] (Tryz.f111.body.getD .skip) = some ir_cmp_Compare_string := by kernel_rfl
theorem ac_cmp_Compare_string {xs : List AV} {r : AV} (hn : xs.length ≤ 20) (h : ∀ C : Ctx, C.n = 20 → IWP Tryz.prog C [] ir_cmp_Compare_string (FinQ [.t 4] r) (AS.start xs)) : ACalls Tryz.prog 111 xs r :=
  acalls_of Tryz.func111 rfl tr_cmp_Compare_string rfl hn h
def ir_subst_Find_1 : IR :=
  (.seq (.ops [.i 2 (.box 118 (.t 0)), .i 4 (.mov (.n 0))]) (.seq (.ops [.i 5 (.fieldAddr 0 (.t 2)), .i 6 (.load false 1 (.t 5)), .i 7 (.mov (.t 1)), .i 8 (.call 111 [.t 6, .t 7]), .i 4 (.mov (.t 8))]) .ret))
theorem tr_subst_Find_1 : trCode Tryz.prog 9 [] (Tryz.f125.body.getD .skip) = some ir_subst_Find_1 := by kernel_rfl
theorem ac_subst_Find_1 {xs : List AV} {r : AV} (hn : xs.length ≤ 9) (h : ∀ C : Ctx, C.n = 9 → IWP Tryz.prog C [] ir_subst_Find_1 (FinQ [.t 4] r) (AS.start xs)) : ACalls Tryz.prog 125 xs r :=
  acalls_of Tryz.func125 rfl tr_subst_Find_1 rfl hn h
def ir_slices_BinarySearchFunc_metaprune_api_Bind_metaprune_api_Bind_string : IR :=
  (.seq (.ops [.i 6 (.mov (.n 0)), .i 7 (.mov (.c (.one (.st (.bool false)))))]) (.seq (.ops [.i 12 (.mov (.t 0)), .i 13 (.len false (.t 12)), .i 8 (.mov (.t 13))]) (.seq (.ops [.i 14 (.mov (.t 8)), .i 9 (.mov (.n 0)), .i 10 (.mov (.t 14))]) (.seq (.block 0 (.loop (.seq (.seq (.ops [.i 15 (.mov (.t 9)), .i 16 (.mov (.t 10)), .i 17 (.bin .lss (.t 15) (.t 16))]) (.cond (.t 17) .skip (.exit 0))) (.block 1 (.seq (.ops [.i 18 (.mov (.t 9)), .i 19 (.mov (.t 10)), .i 20 (.bin .add (.t 18) (.t 19)), .i 21 (.conv .u64 (.t 20)), .i 22 (.bin .shr (.t 21) (.c (.one (.st (.int .u64 1))))), .i 23 (.conv .i64 (.t 22)), .i 11 (.mov (.t 23))]) (.seq (.ops [.i 24 (.mov (.t 2)), .i 25 (.mov (.t 0)), .i 26 (.mov (.t 11)), .i 27 (.indexAddr 3 (.t 25) (.t 26)), .i 28 (.load true 3 (.t 27)), .i 29 (.mov (.t 1)), .i 30 (.callV (.t 24) [.t 28, .t 29]), .i 31 (.bin .lss (.t 30) (.n 0))]) (.cond (.t 31) (.ops [.i 32 (.mov (.t 11)), .i 33 (.bin .add (.t 32) (.n 1)), .i 9 (.mov (.t 33))]) (.ops [.i 34 (.mov (.t 11)), .i 10 (.mov (.t 34))])))))))) (.seq (.ops [.i 35 (.mov (.t 9)), .i 36 (.mov (.t 9)), .i 37 (.mov (.t 8)), .i 38 (.bin .lss (.t 36) (.t 37)), .i 39 (.mov (.t 38)), .mk (some 40) (some (39, true)) (.mov (.t 2)) .no, .mk (some 41) (some (39, true)) (.mov (.t 0)) .no, .mk (some 42) (some (39, true)) (.mov (.t 9)) .no, .mk (some 43) (some (39, true)) (.indexAddr 3 (.t 41) (.t 42)) .no, .mk (some 44) (some (39, true)) (.load true 3 (.t 43)) .no, .mk (some 45) (some (39, true)) (.mov (.t 1)) .no, .mk (some 46) (some (39, true)) (.callV (.t 40) [.t 44, .t 45]) .no, .mk (some 47) (some (39, true)) (.bin .eql (.t 46) (.n 0)) .no, .i 48 (.pick (.t 39) (.t 47) (.c (.one (.st (.bool false))))), .i 6 (.mov (.t 35)), .i 7 (.mov (.t 48))]) .ret)))))
theorem tr_slices_BinarySearchFunc_metaprune_api_Bind_metaprune_api_Bind_string : trCode Tryz.prog 49 [] (Tryz.f124.body.getD .skip) = some ir_slices_BinarySearchFunc_metaprune_api_Bind_metaprune_api_Bind_string := by kernel_rfl
theorem ac_slices_BinarySearchFunc_metaprune_api_Bind_metaprune_api_Bind_string {xs : List AV} {r : AV} (hn : xs.length ≤ 49) (h : ∀ C : Ctx, C.n = 49 → IWP Tryz.prog C [] ir_slices_BinarySearchFunc_metaprune_api_Bind_metaprune_api_Bind_string (FinQ [.t 6, .t 7] r) (AS.start xs)) : ACalls Tryz.prog 124 xs r :=
  acalls_of Tryz.func124 rfl tr_slices_BinarySearchFunc_metaprune_api_Bind_metaprune_api_Bind_string rfl hn h
def ir_subst_Find : IR :=
  (.seq (.ops [.i 4 (.alloc 69 [.st (.str (ByteArray.mk (#[]))), .full []]), .i 5 (.mov (.c (.one (.st (.bool false)))))]) (.seq (.ops [.i 9 (.mov (.t 0)), .i 10 (.mov (.t 1)), .i 11 (.call 124 [.t 9, .t 10, .c (.one (.fn 125 []))]), .i 8 (.mov (.t 11)), .i 12 (.extract 0 (.t 8)), .i 13 (.extract 1 (.t 8)), .i 6 (.mov (.t 12)), .i 7 (.mov (.t 13))]) (.seq (.seq (.ops [.i 14 (.mov (.t 7)), .i 15 (.un .not (.t 14))]) (.cond (.t 15) (.seq (.ops [.i 16 (.build [.st (.str (ByteArray.mk (#[]))), .full []] []), .mk none none (.store 2 (.t 4) (.t 16)) .no, .i 5 (.mov (.c (.one (.st (.bool false)))))]) .ret) .skip)) (.seq (.ops [.i 17 (.mov (.t 0)), .i 18 (.mov (.t 6)), .i 19 (.indexAddr 3 (.t 17) (.t 18)), .i 20 (.fieldAddr 1 (.t 19)), .i 21 (.load true 2 (.t 20)), .mk none none (.store 2 (.t 4) (.t 21)) .no, .i 5 (.mov (.c (.one (.st (.bool true)))))]) .ret))))
theorem tr_subst_Find : trCode Tryz.prog 22 [] (Tryz.f112.body.getD .skip) = some ir_subst_Find := by kernel_rfl
theorem ac_subst_Find {xs : List AV} {r : AV} (hn : xs.length ≤ 22) (h : ∀ C : Ctx, C.n = 22 → IWP Tryz.prog C [] ir_subst_Find (FinQ [.cell 4 true 2, .t 5] r) (AS.start xs)) : ACalls Tryz.prog 112 xs r :=
  acalls_of Tryz.func112 rfl tr_subst_Find rfl hn h
def ir_metaprune_subst_maker_copy : IR :=
  (.seq (.ops [.i 4 (.box 69 (.t 1)), .i 6 (.alloc 69 [.st (.str (ByteArray.mk (#[]))), .full []])]) (.seq (.seq (.ops [.i 12 (.mov (.t 2))]) (.cond (.t 12) (.seq (.ops [.i 14 (.mov (.t 0)), .i 15 (.nilCheck (.t 14)), .i 16 (.fieldAddr 0 (.t 15)), .i 17 (.load false 1 (.t 16)), .i 18 (.fieldAddr 0 (.t 4)), .i 19 (.load false 1 (.t 18)), .i 20 (.call 112 [.t 17, .t 19]), .i 13 (.mov (.t 20)), .i 21 (.extract 0 (.t 13)), .i 22 (.extract 1 (.t 13)), .i 7 (.alloc 69 [.st (.str (ByteArray.mk (#[]))), .full []]), .mk none none (.store 2 (.t 7) (.t 21)) .no, .i 8 (.mov (.t 22))]) (.seq (.ops [.i 23 (.mov (.t 8))]) (.cond (.t 23) (.seq (.ops [.i 24 (.mov (.t 0)), .i 25 (.load true 2 (.t 7)), .i 26 (.callS 84 [.t 24, .t 25, .c (.one (.st (.bool false)))]), .mk none none (.store 2 (.t 6) (.t 26)) .no]) .ret) .skip))) .skip)) (.seq (.seq (.ops [.i 27 (.mov (.t 0)), .i 28 (.nilCheck (.t 27)), .i 29 (.fieldAddr 1 (.t 28)), .i 30 (.load false 1 (.t 29)), .i 31 (.bin .sub (.t 30) (.n 1)), .i 32 (.nilCheck (.t 27)), .i 33 (.fieldAddr 1 (.t 32)), .mk none none (.store 1 (.t 33) (.t 31)) .no]) (.seq (.ops [.i 34 (.mov (.t 0)), .i 35 (.nilCheck (.t 34)), .i 36 (.fieldAddr 1 (.t 35)), .i 37 (.load false 1 (.t 36)), .i 38 (.bin .lss (.t 37) (.n 0))]) (.cond (.t 38) (.seq (.ops [.i 39 (.build [.st (.str (ByteArray.mk (#[]))), .full []] []), .mk none none (.store 2 (.t 6) (.t 39)) .no]) .ret) .skip))) (.seq (.ops [.i 40 (.fieldAddr 0 (.t 4)), .i 41 (.load false 1 (.t 40)), .i 42 (.build [.st (.str (ByteArray.mk (#[]))), .full []] [(0, 1, .t 41)]), .i 9 (.alloc 69 [.st (.str (ByteArray.mk (#[]))), .full []]), .mk none none (.store 2 (.t 9) (.t 42)) .no]) (.seq (.seq (.ops [.i 43 (.fieldAddr 1 (.t 4)), .i 44 (.load false 1 (.t 43)), .i 45 (.len false (.t 44)), .i 46 (.mov (.n 0))]) (.block 0 (.loop (.seq (.ops [.i 47 (.bin .lss (.t 46) (.t 45))]) (.seq (.cond (.t 47) .skip (.exit 0)) (.seq (.block 1 (.seq (.ops [.i 48 (.indexAddr 2 (.t 44) (.t 46)), .i 49 (.load true 2 (.t 48)), .i 11 (.alloc 69 [.st (.str (ByteArray.mk (#[]))), .full []]), .mk none none (.store 2 (.t 11) (.t 49)) .no]) (.seq (.ops [.mk (some 50) none (.fieldAddr 1 (.t 9)) (.onb 9), .mk (some 51) none (.load false 1 (.t 50)) (.onb 9), .i 52 (.mov (.t 0)), .i 53 (.load true 2 (.t 11)), .i 54 (.mov (.t 2)), .mk (some 55) none (.callS 84 [.t 52, .t 53, .t 54]) (.keeps [9, 9]), .i 56 (.buildSlice false 69 2 [.t 55]), .i 57 (.append false 69 2 40 (.t 51) (.t 56)), .i 58 (.fieldAddr 1 (.t 9)), .mk none none (.store 1 (.t 58) (.t 57)) .no]) (.seq (.ops [.i 59 (.mov (.t 0)), .i 60 (.nilCheck (.t 59)), .i 61 (.fieldAddr 1 (.t 60)), .i 62 (.load false 1 (.t 61)), .i 63 (.bin .lss (.t 62) (.n 0))]) (.cond (.t 63) (.seq (.ops [.i 64 (.build [.st (.str (ByteArray.mk (#[]))), .full []] []), .mk none none (.store 2 (.t 6) (.t 64)) .no]) .ret) .skip))))) (.ops [.i 65 (.bin .add (.t 46) (.n 1)), .i 46 (.mov (.t 65))]))))))) (.seq (.ops [.i 66 (.load true 2 (.t 9)), .mk none none (.store 2 (.t 6) (.t 66)) .no]) .ret))))))
theorem tr_metaprune_subst_maker_copy : trCode Tryz.prog 67 [26, 55] (Tryz.f84.body.getD .skip) = some ir_metaprune_subst_maker_copy := by kernel_rfl
theorem acS_metaprune_subst_maker_copy {xs : List AV} {S S' : AStore} {r : AV} (hn : xs.length ≤ 67) (h : Clean S → ∀ C : Ctx, C.n = 67 → IWP Tryz.prog C [26, 55] ir_metaprune_subst_maker_copy (FinS C [.cell 6 true 2] r S') (AS.startS xs S)) : ACallsS Tryz.prog 84 xs S r S' :=
  acallsS_of Tryz.func84 rfl tr_metaprune_subst_maker_copy rfl hn h
def ir_subst_On : IR :=
  (.seq (.ops [.i 3 (.box 69 (.t 1)), .i 4 (.alloc 69 [.st (.str (ByteArray.mk (#[]))), .full []]), .i 5 (.mov (.c (.one (.st (.bool false)))))]) (.seq (.ops [.i 8 (.mov (.t 0)), .i 9 (.build [.full [], .st (.int .i64 0)] [(0, 1, .t 8), (1, 1, .n 2000)]), .i 10 (.box 128 (.t 9)), .i 6 (.mov (.t 10))]) (.seq (.ops [.i 11 (.mov (.t 6)), .i 12 (.load true 2 (.t 3)), .i 13 (.callS 84 [.t 11, .t 12, .c (.one (.st (.bool true)))]), .i 7 (.alloc 69 [.st (.str (ByteArray.mk (#[]))), .full []]), .mk none none (.store 2 (.t 7) (.t 13)) .no]) (.seq (.ops [.i 14 (.load true 2 (.t 7)), .i 15 (.mov (.t 6)), .mk (some 16) none (.nilCheck (.t 15)) (.onb 10), .mk (some 17) none (.fieldAddr 1 (.t 16)) (.onb 10), .mk (some 18) none (.load false 1 (.t 17)) (.onb 10), .i 19 (.bin .geq (.t 18) (.n 0)), .mk none none (.store 2 (.t 4) (.t 14)) (.onb 4), .i 5 (.mov (.t 19))]) .ret))))
theorem tr_subst_On : trCode Tryz.prog 20 [13, 10060010] (Tryz.f46.body.getD .skip) = some ir_subst_On := by kernel_rfl
theorem ac_subst_On {xs : List AV} {r : AV} (hn : xs.length ≤ 20) (h : ∀ C : Ctx, C.n = 20 → IWP Tryz.prog C [13, 10060010] ir_subst_On (FinQ [.cell 4 true 2, .t 5] r) (AS.start xs)) : ACalls Tryz.prog 46 xs r :=
  acalls_of Tryz.func46 rfl tr_subst_On rfl hn h
end Go.Proofs.YtehnjhkndbcmgaaGreatDoor

namespace Go.Proofs.YtehnjhkndbcmgaaGreatDoor
open Go Go.RowKit
set_option linter.unusedVariables false
set_option linter.unusedSimpArgs false
set_option maxHeartbeats 400000
theorem for_a (l : List Bd) (n : ByteArray) : ACalls Tryz.prog 104 [aBds l, aStr n] (.tup [aTm ((lookup l n).getD Tm.nil), aBool (lookup l n).isSome]) := by
  refine ac_R_For (Nat.le_of_ble_eq_true rfl) fun C hC => ?_
  unfold ir_R_For
  refine IWP.learn 0 (by omega) fun hkn => ?_
  have hkn := known_len hkn
  rw [List.length_map] at hkn
  repeat' (first | (with_reducible first | refine W ?_ | refine Wk (by decide) ?_) | ((with_reducible first | refine Wo (fun K hK => ?_) | refine Wq ?_ | refine Wr ?_); (try simp only [go_sem, fN, ↓gI, ↓pI, seval, eT, iR]); (repeat with_reducible refine And.intro (by first | omega | (with_reducible exact lens) | (simp [maxLen_eq] <;> omega)) ?_); (try (with_reducible refine hK _ ?_; clear hK K))))
  refine IWP.loop (fun m s => ∃ k, k ≤ l.length ∧ m = l.length - k ∧ (∀ c ∈ l.take k, c.1 ≠ n) ∧ s.env 0 = aBds l ∧ s.env 1 = aStr n ∧ s.env 4 = .one (.ptr 4 1 0 0) ∧ s.S 4 = some (.box 69 [.st (.str ⟨#[]⟩), .full []]) ∧ s.env 6 = aInt k) l.length ⟨0, Nat.zero_le _, rfl, by simp, rfl, rfl, rfl, rfl, rfl⟩ ?_
  rintro m ⟨env, S⟩ ⟨k, hk, rfl, h0, e0, e1, e4, s4, e6⟩
  simp only at e0 e1 e4 s4 e6
  by_cases hlt : (k : Int) < l.length
  · obtain ⟨b, hb⟩ := get_lt (show k < l.length by omega)
    repeat' (first | (with_reducible first | refine W ?_ | refine Wk (by decide) ?_) | ((with_reducible first | refine Wo (fun K hK => ?_) | refine Wq ?_ | refine Wr ?_); (try simp only [go_sem, fN, ↓gI, ↓pI, seval, eT, iR, e0, e1, e4, s4, e6, hlt]); (repeat with_reducible refine And.intro (by first | omega | (with_reducible exact lens) | (simp [maxLen_eq] <;> omega)) ?_); (try (with_reducible refine hK _ ?_; clear hK K))))
    with_reducible refine Wp ?_
    simp only [go_sem, fN, ↓gI, ↓pI, seval, true_implies, false_implies, implies_true, dT, dF, iL, hlt]
    (try with_reducible refine iC ?_)
    repeat' (first | (with_reducible first | refine W ?_ | refine Wk (by decide) ?_) | ((with_reducible first | refine Wo (fun K hK => ?_) | refine Wq ?_ | refine Wr ?_); (try simp only [go_sem, fN, ↓gI, ↓pI, seval, eT, iR, e0, e1, e4, s4, e6, hb, encB]); (repeat with_reducible refine And.intro (by first | omega | (with_reducible exact lens) | (simp [maxLen_eq] <;> omega)) ?_); (try (with_reducible refine hK _ ?_; clear hK K))))
    by_cases he : b.1 = n
    · with_reducible refine Wp ?_
      simp only [go_sem, fN, ↓gI, ↓pI, seval, true_implies, false_implies, implies_true, dT, dF, iL, he]
      (try with_reducible refine iC ?_)
      repeat' (first | (with_reducible first | refine W ?_ | refine Wk (by decide) ?_) | ((with_reducible first | refine Wo (fun K hK => ?_) | refine Wq ?_ | refine Wr ?_); (try simp only [go_sem, fN, ↓gI, ↓pI, seval, eT, iR, e0, e1, e4, s4, e6, hb, encB]); (repeat with_reducible refine And.intro (by first | omega | (with_reducible exact lens) | (simp [maxLen_eq] <;> omega)) ?_); (try (with_reducible refine hK _ ?_; clear hK K))))
      simp only [go_sem, fN, ↓gI, ↓pI, seval, FinQ, AS.result, resAll, resOne, tupV, e4]
      rw [lookup_take hb he h0]
      rfl
    · with_reducible refine Wp ?_
      simp only [go_sem, fN, ↓gI, ↓pI, seval, true_implies, false_implies, implies_true, dT, dF, iL, he]
      (try with_reducible refine iC ?_)
      repeat' (first | (with_reducible first | refine W ?_ | refine Wk (by decide) ?_) | ((with_reducible first | refine Wo (fun K hK => ?_) | refine Wq ?_ | refine Wr ?_); (try simp only [go_sem, fN, ↓gI, ↓pI, seval, eT, iR, e0, e1, e4, s4, e6]); (repeat with_reducible refine And.intro (by first | omega | (with_reducible exact lens) | (simp [maxLen_eq] <;> omega)) ?_); (try (with_reducible refine hK _ ?_; clear hK K))))
      refine then_normal ⟨l.length - (k + 1), by omega, k + 1, by omega, rfl, ?_, ?_⟩
      · rw [take_snoc hb]
        intro c hc
        rcases List.mem_append.1 hc with hc | hc
        · exact h0 c hc
        · rw [List.mem_singleton.1 hc]; exact he
      · simp only [go_sem, fN, ↓gI, ↓pI, seval, eT, iR, e0, e1, e4, s4, e6]
        congr 3
  · repeat' (first | (with_reducible first | refine W ?_ | refine Wk (by decide) ?_) | ((with_reducible first | refine Wo (fun K hK => ?_) | refine Wq ?_ | refine Wr ?_); (try simp only [go_sem, fN, ↓gI, ↓pI, seval, eT, iR, e0, e1, e4, s4, e6, hlt]); (repeat with_reducible refine And.intro (by first | omega | (with_reducible exact lens) | (simp [maxLen_eq] <;> omega)) ?_); (try (with_reducible refine hK _ ?_; clear hK K))))
    with_reducible refine Wp ?_
    simp only [go_sem, fN, ↓gI, ↓pI, seval, true_implies, false_implies, implies_true, dT, dF, iL, hlt]
    (try with_reducible refine iC ?_)
    repeat' (first | (with_reducible first | refine W ?_ | refine Wk (by decide) ?_) | ((with_reducible first | refine Wo (fun K hK => ?_) | refine Wq ?_ | refine Wr ?_); (try simp only [go_sem, fN, ↓gI, ↓pI, seval, eT, iR, e0, e1, e4, s4, e6]); (repeat with_reducible refine And.intro (by first | omega | (with_reducible exact lens) | (simp [maxLen_eq] <;> omega)) ?_); (try (with_reducible refine hK _ ?_; clear hK K))))
    simp only [go_sem, fN, ↓gI, ↓pI, seval, FinQ, AS.result, resAll, resOne, tupV, e4]
    rw [List.take_of_length_le (by omega)] at h0
    rw [lookup_none h0]
    rfl
theorem isNaN_a (a : ByteArray) : ACalls Tryz.prog 123 [aStr a] (aBool false) := by
  refine ac_cmp_isNaN_string (Nat.le_of_ble_eq_true rfl) fun C hC => ?_
  unfold ir_cmp_isNaN_string
  repeat' (first | (with_reducible first | refine W ?_ | refine Wk (by decide) ?_) | ((with_reducible first | refine Wo (fun K hK => ?_) | refine Wq ?_ | refine Wr ?_); (try simp only [go_sem, fN, ↓gI, ↓pI, seval, eT, iR]); (repeat with_reducible refine And.intro (by first | omega | (with_reducible exact lens) | (simp [maxLen_eq] <;> omega)) ?_); (try (with_reducible refine hK _ ?_; clear hK K))))
  simp only [go_sem, fN, ↓gI, ↓pI, seval, FinQ, AS.result, resAll, resOne, tupV]
theorem compare_a (a b : ByteArray) : ACalls Tryz.prog 111 [aStr a, aStr b] (aInt (cmpI a b)) := by
  refine ac_cmp_Compare_string (Nat.le_of_ble_eq_true rfl) fun C hC => ?_
  unfold ir_cmp_Compare_string
  repeat' (first | (with_reducible first | refine W ?_ | refine Wk (by decide) ?_) | refine Cg _ (isNaN_a a) ?_ | refine Cg _ (isNaN_a b) ?_ | ((with_reducible first | refine Wo (fun K hK => ?_) | refine Wq ?_ | refine Wr ?_); (try simp only [go_sem, fN, ↓gI, ↓pI, seval, eT, iR]); (repeat with_reducible refine And.intro (by first | omega | (with_reducible exact lens) | (simp [maxLen_eq] <;> omega)) ?_); (try (with_reducible refine hK _ ?_; clear hK K))))
  with_reducible refine Wp ?_
  simp only [go_sem, fN, ↓gI, ↓pI, seval, true_implies, false_implies, implies_true, dT, dF, iL]
  (try with_reducible refine iC ?_)
  repeat' (first | (with_reducible first | refine W ?_ | refine Wk (by decide) ?_) | ((with_reducible first | refine Wo (fun K hK => ?_) | refine Wq ?_ | refine Wr ?_); (try simp only [go_sem, fN, ↓gI, ↓pI, seval, eT, iR]); (repeat with_reducible refine And.intro (by first | omega | (with_reducible exact lens) | (simp [maxLen_eq] <;> omega)) ?_); (try (with_reducible refine hK _ ?_; clear hK K))))
  with_reducible refine Wp ?_
  simp only [go_sem, fN, ↓gI, ↓pI, seval, true_implies, false_implies, implies_true, dT, dF, iL]
  (try with_reducible refine iC ?_)
  repeat' (first | (with_reducible first | refine W ?_ | refine Wk (by decide) ?_) | ((with_reducible first | refine Wo (fun K hK => ?_) | refine Wq ?_ | refine Wr ?_); (try simp only [go_sem, fN, ↓gI, ↓pI, seval, eT, iR]); (repeat with_reducible refine And.intro (by first | omega | (with_reducible exact lens) | (simp [maxLen_eq] <;> omega)) ?_); (try (with_reducible refine hK _ ?_; clear hK K))))
  unfold cmpI
  cases h : sLt a b with
  | true =>
    with_reducible refine Wp ?_
    simp only [go_sem, fN, ↓gI, ↓pI, seval, true_implies, false_implies, implies_true, dT, dF, iL]
    (try with_reducible refine iC ?_)
    repeat' (first | (with_reducible first | refine W ?_ | refine Wk (by decide) ?_) | ((with_reducible first | refine Wo (fun K hK => ?_) | refine Wq ?_ | refine Wr ?_); (try simp only [go_sem, fN, ↓gI, ↓pI, seval, eT, iR]); (repeat with_reducible refine And.intro (by first | omega | (with_reducible exact lens) | (simp [maxLen_eq] <;> omega)) ?_); (try (with_reducible refine hK _ ?_; clear hK K))))
    simp only [go_sem, fN, ↓gI, ↓pI, seval, FinQ, AS.result, resAll, resOne, tupV]
  | false =>
    with_reducible refine Wp ?_
    simp only [go_sem, fN, ↓gI, ↓pI, seval, true_implies, false_implies, implies_true, dT, dF, iL]
    (try with_reducible refine iC ?_)
    by_cases he : a = b
    · repeat' (first | (with_reducible first | refine W ?_ | refine Wk (by decide) ?_) | ((with_reducible first | refine Wo (fun K hK => ?_) | refine Wq ?_ | refine Wr ?_); (try simp only [go_sem, fN, ↓gI, ↓pI, seval, eT, iR, h, he, Bool.or_true, Bool.or_false]); (repeat with_reducible refine And.intro (by first | omega | (with_reducible exact lens) | (simp [maxLen_eq] <;> omega)) ?_); (try (with_reducible refine hK _ ?_; clear hK K))))
      with_reducible refine Wp ?_
      simp only [go_sem, fN, ↓gI, ↓pI, seval, true_implies, false_implies, implies_true, dT, dF, iL, h, he, Bool.or_true, Bool.or_false]
      (try with_reducible refine iC ?_)
      repeat' (first | (with_reducible first | refine W ?_ | refine Wk (by decide) ?_) | ((with_reducible first | refine Wo (fun K hK => ?_) | refine Wq ?_ | refine Wr ?_); (try simp only [go_sem, fN, ↓gI, ↓pI, seval, eT, iR]); (repeat with_reducible refine And.intro (by first | omega | (with_reducible exact lens) | (simp [maxLen_eq] <;> omega)) ?_); (try (with_reducible refine hK _ ?_; clear hK K))))
      simp only [go_sem, fN, ↓gI, ↓pI, seval, FinQ, AS.result, resAll, resOne, tupV, h, he]
    · repeat' (first | (with_reducible first | refine W ?_ | refine Wk (by decide) ?_) | ((with_reducible first | refine Wo (fun K hK => ?_) | refine Wq ?_ | refine Wr ?_); (try simp only [go_sem, fN, ↓gI, ↓pI, seval, eT, iR, h, he, Bool.or_true, Bool.or_false]); (repeat with_reducible refine And.intro (by first | omega | (with_reducible exact lens) | (simp [maxLen_eq] <;> omega)) ?_); (try (with_reducible refine hK _ ?_; clear hK K))))
      with_reducible refine Wp ?_
      simp only [go_sem, fN, ↓gI, ↓pI, seval, true_implies, false_implies, implies_true, dT, dF, iL, h, he, Bool.or_true, Bool.or_false]
      (try with_reducible refine iC ?_)
      repeat' (first | (with_reducible first | refine W ?_ | refine Wk (by decide) ?_) | ((with_reducible first | refine Wo (fun K hK => ?_) | refine Wq ?_ | refine Wr ?_); (try simp only [go_sem, fN, ↓gI, ↓pI, seval, eT, iR]); (repeat with_reducible refine And.intro (by first | omega | (with_reducible exact lens) | (simp [maxLen_eq] <;> omega)) ?_); (try (with_reducible refine hK _ ?_; clear hK K))))
      simp only [go_sem, fN, ↓gI, ↓pI, seval, FinQ, AS.result, resAll, resOne, tupV, h, he]
theorem find1_a (b : Bd) (n : ByteArray) : ACalls Tryz.prog 125 [aBd b, aStr n] (aInt (cmpI b.1 n)) := by
  refine ac_subst_Find_1 (Nat.le_of_ble_eq_true rfl) fun C hC => ?_
  unfold ir_subst_Find_1
  repeat' (first | (with_reducible first | refine W ?_ | refine Wk (by decide) ?_) | refine Cg _ (compare_a b.1 n) ?_ | ((with_reducible first | refine Wo (fun K hK => ?_) | refine Wq ?_ | refine Wr ?_); (try simp only [go_sem, fN, ↓gI, ↓pI, seval, eT, iR]); (repeat with_reducible refine And.intro (by first | omega | (with_reducible exact lens) | (simp [maxLen_eq] <;> omega)) ?_); (try (with_reducible refine hK _ ?_; clear hK K))))
  simp only [go_sem, fN, ↓gI, ↓pI, seval, FinQ, AS.result, resAll, resOne, tupV]
theorem cmpI_neg {a b : ByteArray} : cmpI a b < 0 ↔ sLt a b = true := by
  unfold cmpI
  split
  · rename_i h; simp [h]
  · rename_i h
    split <;> simp [h]
theorem cmpI_zero {a b : ByteArray} : cmpI a b = 0 ↔ a = b := by
  unfold cmpI
  split
  · rename_i h
    constructor
    · intro h'; cases h'
    · intro e; subst e; rw [sLt_irrefl] at h; cases h
  · split <;> simp_all
def foundAt (l : List Bd) (n : ByteArray) (i : Nat) : Bool := match l[i]? with
  | some b => decide (b.1 = n)
  | none => false
theorem find1_S (b : Bd) (n : ByteArray) (S : AStore) : ACallsS Tryz.prog 125 [aBd b, aStr n] S (aInt (cmpI b.1 n)) S := (find1_a b n).toS rfl
theorem half {i j : Nat} (h : i < j) : (((i : Int) + j).fdiv 2) = (((i + j) / 2 : Nat) : Int) ∧ i ≤ (i + j) / 2 ∧ (i + j) / 2 < j := by
  refine ⟨?_, by omega, by omega⟩
  rw [Int.fdiv_eq_ediv_of_nonneg _ (by omega)]
  omega
theorem inR_u64 (n : Int) : inR .u64 n ↔ 0 ≤ n ∧ n ≤ 18446744073709551615 := by
  simp [inR, IntKind.min, IntKind.max, IntKind.signed, IntKind.bits]
theorem search_a (l : List Bd) (h40 : l.length ≤ 100000) (ho : Ordered l) (n : ByteArray) :
    ∃ i : Nat, i ≤ l.length ∧ (∀ k b, l[k]? = some b → k < i → sLt b.1 n = true) ∧ (∀ k b, l[k]? = some b → i ≤ k → sLt b.1 n = false) ∧
      ACalls Tryz.prog 124 [aBds l, aStr n, .one (.fn 125 [])] (.tup [aInt i, aBool (foundAt l n i)]) := by
  obtain ⟨i0, hi0, hlo, hhi⟩ : ∃ i : Nat, i ≤ l.length ∧ (∀ k b, l[k]? = some b → k < i → sLt b.1 n = true) ∧ (∀ k b, l[k]? = some b → i ≤ k → sLt b.1 n = false) := by
    clear h40
    induction l with
    | nil => exact ⟨0, by simp, by simp, by simp⟩
    | cons c l ih =>
      obtain ⟨o1, o2⟩ := List.pairwise_cons.1 ho
      obtain ⟨i, q1, q2, q3⟩ := ih o2
      cases hc : sLt c.1 n with
      | true =>
        refine ⟨i + 1, by simp; omega, fun k b hk hki => ?_, fun k b hk hki => ?_⟩
        · cases k with
          | zero => simp at hk; subst hk; exact hc
          | succ k => exact q2 k b (by simpa using hk) (by omega)
        · cases k with
          | zero => omega
          | succ k => exact q3 k b (by simpa using hk) (by omega)
      | false =>
        refine ⟨0, by simp, fun k b hk hki => by omega, fun k b hk hki => ?_⟩
        cases k with
        | zero => simp at hk; subst hk; exact hc
        | succ k =>
          have hm := mem_of_get (show l[k]? = some b by simpa using hk)
          cases hb : sLt b.1 n with
          | false => rfl
          | true => have := sLt_trans (o1 b hm) hb; rw [hc] at this; cases this
  refine ⟨i0, hi0, hlo, hhi, ?_⟩
  have hplain : plainF Tryz.prog 125 = true := by kernel_rfl
  refine ac_slices_BinarySearchFunc_metaprune_api_Bind_metaprune_api_Bind_string (Nat.le_of_ble_eq_true rfl) fun C hC => ?_
  unfold ir_slices_BinarySearchFunc_metaprune_api_Bind_metaprune_api_Bind_string
  repeat' (first | (with_reducible first | refine W ?_ | refine Wk (by decide) ?_) | ((with_reducible first | refine Wo (fun K hK => ?_) | refine Wq ?_ | refine Wr ?_); (try simp only [go_sem, fN, ↓gI, ↓pI, seval, eT, iR]); (repeat with_reducible refine And.intro (by first | omega | (with_reducible exact lens) | (simp [maxLen_eq] <;> omega)) ?_); (try (with_reducible refine hK _ ?_; clear hK K))))
  refine IWP.loop (fun m s => ∃ i j : Nat, i ≤ i0 ∧ i0 ≤ j ∧ j ≤ l.length ∧ m = j - i ∧ s.env 0 = aBds l ∧ s.env 1 = aStr n ∧ s.env 2 = .one (.fn 125 []) ∧ s.env 8 = aInt l.length ∧ s.env 9 = aInt i ∧ s.env 10 = aInt j) l.length ⟨0, l.length, Nat.zero_le _, hi0, Nat.le_refl _, rfl, rfl, rfl, rfl, rfl, rfl, rfl⟩ ?_
  rintro m ⟨env, S⟩ ⟨i, j, hi, hj, hjl, rfl, e0, e1, e2, e8, e9, e10⟩
  simp only at e0 e1 e2 e8 e9 e10
  by_cases hlt : (i : Int) < j
  · obtain ⟨z1, z2, z3⟩ := half (show i < j by omega)
    obtain ⟨b, hb⟩ := get_lt (show (i + j) / 2 < l.length by omega)
    repeat' (first | (with_reducible first | refine W ?_ | refine Wk (by decide) ?_) | ((with_reducible first | refine Wo (fun K hK => ?_) | refine Wq ?_ | refine Wr ?_); (try simp only [go_sem, fN, ↓gI, ↓pI, seval, eT, iR, e0, e1, e2, e8, e9, e10, hlt]); (repeat with_reducible refine And.intro (by first | omega | (with_reducible exact lens) | (simp [maxLen_eq] <;> omega)) ?_); (try (with_reducible refine hK _ ?_; clear hK K))))
    with_reducible refine Wp ?_
    simp only [go_sem, fN, ↓gI, ↓pI, seval, true_implies, false_implies, implies_true, dT, dF, iL, hlt]
    (try with_reducible refine iC ?_)
    have hbits : (1 : Nat) ≤ IntKind.u64.bits := by show 1 ≤ 64; omega
    repeat' (first | (with_reducible first | refine W ?_ | refine Wk (by decide) ?_) | ((with_reducible first | refine Wo (fun K hK => ?_) | refine Wq ?_ | refine Wr ?_); (try simp only [go_sem, fN, ↓gI, ↓pI, seval, eT, iR, e0, e1, e2, e8, e9, e10, hlt, z1, inR_u64, hbits, hb, encB, hplain]); (repeat with_reducible refine And.intro (by first | omega | (with_reducible exact lens) | (simp [maxLen_eq] <;> omega)) ?_); (try (with_reducible refine hK _ ?_; clear hK K))))
    refine ⟨_, _, find1_S b n _, ?_⟩
    cases hc : sLt b.1 n with
    | true =>
      have hneg : cmpI b.1 n < 0 := cmpI_neg.2 hc
      repeat' (first | (with_reducible first | refine W ?_ | refine Wk (by decide) ?_) | ((with_reducible first | refine Wo (fun K hK => ?_) | refine Wq ?_ | refine Wr ?_); (try simp only [go_sem, fN, ↓gI, ↓pI, seval, eT, iR, hneg]); (repeat with_reducible refine And.intro (by first | omega | (with_reducible exact lens) | (simp [maxLen_eq] <;> omega)) ?_); (try (with_reducible refine hK _ ?_; clear hK K))))
      with_reducible refine Wp ?_
      simp only [go_sem, fN, ↓gI, ↓pI, seval, true_implies, false_implies, implies_true, dT, dF, iL, hneg]
      (try with_reducible refine iC ?_)
      repeat' (first | (with_reducible first | refine W ?_ | refine Wk (by decide) ?_) | ((with_reducible first | refine Wo (fun K hK => ?_) | refine Wq ?_ | refine Wr ?_); (try simp only [go_sem, fN, ↓gI, ↓pI, seval, eT, iR, e0, e1, e2, e8, e9, e10]); (repeat with_reducible refine And.intro (by first | omega | (with_reducible exact lens) | (simp [maxLen_eq] <;> omega)) ?_); (try (with_reducible refine hK _ ?_; clear hK K))))
      refine then_normal ⟨j - ((i + j) / 2 + 1), by omega, (i + j) / 2 + 1, j, ?_, hj, hjl, rfl, ?_⟩
      · rcases Nat.lt_or_ge ((i + j) / 2) i0 with h | h
        · omega
        · rw [hhi _ b hb h] at hc; cases hc
      · simp only [go_sem, fN, ↓gI, ↓pI, seval, eT, iR, e0, e1, e2, e8, e9, e10]
        congr 3
    | false =>
      have hneg : ¬ cmpI b.1 n < 0 := fun h => by rw [cmpI_neg.1 h] at hc; cases hc
      repeat' (first | (with_reducible first | refine W ?_ | refine Wk (by decide) ?_) | ((with_reducible first | refine Wo (fun K hK => ?_) | refine Wq ?_ | refine Wr ?_); (try simp only [go_sem, fN, ↓gI, ↓pI, seval, eT, iR, hneg]); (repeat with_reducible refine And.intro (by first | omega | (with_reducible exact lens) | (simp [maxLen_eq] <;> omega)) ?_); (try (with_reducible refine hK _ ?_; clear hK K))))
      with_reducible refine Wp ?_
      simp only [go_sem, fN, ↓gI, ↓pI, seval, true_implies, false_implies, implies_true, dT, dF, iL, hneg]
      (try with_reducible refine iC ?_)
      repeat' (first | (with_reducible first | refine W ?_ | refine Wk (by decide) ?_) | ((with_reducible first | refine Wo (fun K hK => ?_) | refine Wq ?_ | refine Wr ?_); (try simp only [go_sem, fN, ↓gI, ↓pI, seval, eT, iR, e0, e1, e2, e8, e9, e10]); (repeat with_reducible refine And.intro (by first | omega | (with_reducible exact lens) | (simp [maxLen_eq] <;> omega)) ?_); (try (with_reducible refine hK _ ?_; clear hK K))))
      refine then_normal ⟨(i + j) / 2 - i, by omega, i, (i + j) / 2, hi, ?_, by omega, rfl, ?_⟩
      · rcases Nat.lt_or_ge ((i + j) / 2) i0 with h | h
        · rw [hlo _ b hb h] at hc; cases hc
        · omega
      · simp only [go_sem, fN, ↓gI, ↓pI, seval, eT, iR, e0, e1, e2, e8, e9, e10]
  · have hii : i = i0 := by omega
    subst hii
    have hjj : j = i := by omega
    subst hjj
    repeat' (first | (with_reducible first | refine W ?_ | refine Wk (by decide) ?_) | ((with_reducible first | refine Wo (fun K hK => ?_) | refine Wq ?_ | refine Wr ?_); (try simp only [go_sem, fN, ↓gI, ↓pI, seval, eT, iR, e0, e1, e2, e8, e9, e10, hlt]); (repeat with_reducible refine And.intro (by first | omega | (with_reducible exact lens) | (simp [maxLen_eq] <;> omega)) ?_); (try (with_reducible refine hK _ ?_; clear hK K))))
    with_reducible refine Wp ?_
    simp only [go_sem, fN, ↓gI, ↓pI, seval, true_implies, false_implies, implies_true, dT, dF, iL, hlt]
    (try with_reducible refine iC ?_)
    by_cases hil : (j : Int) < l.length
    · obtain ⟨b, hb⟩ := get_lt (show j < l.length by omega)
      repeat' (first | (with_reducible first | refine W ?_ | refine Wk (by decide) ?_) | ((with_reducible first | refine Wo (fun K hK => ?_) | refine Wq ?_ | refine Wr ?_); (try simp only [go_sem, fN, ↓gI, ↓pI, seval, eT, iR, e0, e1, e2, e8, e9, e10, hil, hb, encB, hplain]); (repeat with_reducible refine And.intro (by first | omega | (with_reducible exact lens) | (simp [maxLen_eq] <;> omega)) ?_); (try (with_reducible refine hK _ ?_; clear hK K))))
      refine ⟨_, _, find1_S b n _, ?_⟩
      repeat' (first | (with_reducible first | refine W ?_ | refine Wk (by decide) ?_) | ((with_reducible first | refine Wo (fun K hK => ?_) | refine Wq ?_ | refine Wr ?_); (try simp only [go_sem, fN, ↓gI, ↓pI, seval, eT, iR]); (repeat with_reducible refine And.intro (by first | omega | (with_reducible exact lens) | (simp [maxLen_eq] <;> omega)) ?_); (try (with_reducible refine hK _ ?_; clear hK K))))
      simp only [go_sem, fN, ↓gI, ↓pI, seval, FinQ, AS.result, resAll, resOne, tupV]
      unfold foundAt
      rw [hb]
      simp only [cmpI_zero]
    · repeat' (first | (with_reducible first | refine W ?_ | refine Wk (by decide) ?_) | ((with_reducible first | refine Wo (fun K hK => ?_) | refine Wq ?_ | refine Wr ?_); (try simp only [go_sem, fN, ↓gI, ↓pI, seval, eT, iR, e0, e1, e2, e8, e9, e10, hil]); (repeat with_reducible refine And.intro (by first | omega | (with_reducible exact lens) | (simp [maxLen_eq] <;> omega)) ?_); (try (with_reducible refine hK _ ?_; clear hK K))))
      simp only [go_sem, fN, ↓gI, ↓pI, seval, FinQ, AS.result, resAll, resOne, tupV]
      unfold foundAt
      rw [List.getElem?_eq_none (by omega)]
theorem found_lookup {l : List Bd} {n : ByteArray} {i : Nat} (hlo : ∀ k b, l[k]? = some b → k < i → sLt b.1 n = true) (hhi : ∀ k b, l[k]? = some b → i ≤ k → sLt b.1 n = false) (ho : Ordered l) :
    (∃ b, l[i]? = some b ∧ b.1 = n ∧ lookup l n = some b.2) ∨ (foundAt l n i = false ∧ lookup l n = none) := by
  have hlow : ∀ c ∈ l.take i, c.1 ≠ n := fun c hc e => by
    obtain ⟨k, hk, rfl⟩ := List.getElem_of_mem hc
    rw [List.length_take] at hk
    have := hlo k l[k] (List.getElem?_eq_getElem (by omega)) (by omega)
    rw [List.getElem_take] at e
    rw [e, sLt_irrefl] at this
    cases this
  by_cases hil : i < l.length
  · obtain ⟨b, hb⟩ := get_lt hil
    by_cases he : b.1 = n
    · exact .inl ⟨b, hb, he, lookup_take hb he hlow⟩
    · refine .inr ⟨by unfold foundAt; rw [hb]; exact decide_eq_false he, lookup_none fun c hc e => ?_⟩
      obtain ⟨k, hk, rfl⟩ := List.getElem_of_mem hc
      have hck := List.getElem?_eq_getElem hk
      rcases Nat.lt_trichotomy k i with h | h | h
      · have := hlo k _ hck h
        rw [e, sLt_irrefl] at this
        cases this
      · subst h
        rw [hb] at hck
        cases hck
        exact he e
      · have h1 := ordered_get ho hb hck h
        rw [e, hhi i b hb (Nat.le_refl _)] at h1
        cases h1
  · refine .inr ⟨by unfold foundAt; rw [List.getElem?_eq_none (by omega)], lookup_none fun c hc => hlow c ?_⟩
    rw [List.take_of_length_le (by omega)]
    exact hc
theorem find_a (l : List Bd) (h40 : l.length ≤ 100000) (ho : Ordered l) (n : ByteArray) : ACalls Tryz.prog 112 [aBds l, aStr n] (.tup [aTm ((lookup l n).getD Tm.nil), aBool (lookup l n).isSome]) := by
  obtain ⟨i, hi, hlo, hhi, hs⟩ := search_a l h40 ho n
  refine ac_subst_Find (Nat.le_of_ble_eq_true rfl) fun C hC => ?_
  unfold ir_subst_Find
  repeat' (first | (with_reducible first | refine W ?_ | refine Wk (by decide) ?_) | ((with_reducible first | refine Wo (fun K hK => ?_) | refine Wq ?_ | refine Wr ?_); (try simp only [go_sem, fN, ↓gI, ↓pI, seval, eT, iR]); (repeat with_reducible refine And.intro (by first | omega | (with_reducible exact lens) | (simp [maxLen_eq] <;> omega)) ?_); (try (with_reducible refine hK _ ?_; clear hK K))))
  refine ⟨_, hs, ?_⟩
  rcases found_lookup hlo hhi ho with ⟨b, hb, he, hl⟩ | ⟨hf, hl⟩
  · have hf : foundAt l n i = true := by unfold foundAt; rw [hb]; exact decide_eq_true he
    repeat' (first | (with_reducible first | refine W ?_ | refine Wk (by decide) ?_) | ((with_reducible first | refine Wo (fun K hK => ?_) | refine Wq ?_ | refine Wr ?_); (try simp only [go_sem, fN, ↓gI, ↓pI, seval, eT, iR, hf]); (repeat with_reducible refine And.intro (by first | omega | (with_reducible exact lens) | (simp [maxLen_eq] <;> omega)) ?_); (try (with_reducible refine hK _ ?_; clear hK K))))
    with_reducible refine Wp ?_
    simp only [go_sem, fN, ↓gI, ↓pI, seval, true_implies, false_implies, implies_true, dT, dF, iL, hf]
    (try with_reducible refine iC ?_)
    repeat' (first | (with_reducible first | refine W ?_ | refine Wk (by decide) ?_) | ((with_reducible first | refine Wo (fun K hK => ?_) | refine Wq ?_ | refine Wr ?_); (try simp only [go_sem, fN, ↓gI, ↓pI, seval, eT, iR, hb, encB]); (repeat with_reducible refine And.intro (by first | omega | (with_reducible exact lens) | (simp [maxLen_eq] <;> omega)) ?_); (try (with_reducible refine hK _ ?_; clear hK K))))
    simp only [go_sem, fN, ↓gI, ↓pI, seval, FinQ, AS.result, resAll, resOne, tupV]
    rw [hl]
    rfl
  · repeat' (first | (with_reducible first | refine W ?_ | refine Wk (by decide) ?_) | ((with_reducible first | refine Wo (fun K hK => ?_) | refine Wq ?_ | refine Wr ?_); (try simp only [go_sem, fN, ↓gI, ↓pI, seval, eT, iR, hf]); (repeat with_reducible refine And.intro (by first | omega | (with_reducible exact lens) | (simp [maxLen_eq] <;> omega)) ?_); (try (with_reducible refine hK _ ?_; clear hK K))))
    with_reducible refine Wp ?_
    simp only [go_sem, fN, ↓gI, ↓pI, seval, true_implies, false_implies, implies_true, dT, dF, iL, hf]
    (try with_reducible refine iC ?_)
    repeat' (first | (with_reducible first | refine W ?_ | refine Wk (by decide) ?_) | ((with_reducible first | refine Wo (fun K hK => ?_) | refine Wq ?_ | refine Wr ?_); (try simp only [go_sem, fN, ↓gI, ↓pI, seval, eT, iR]); (repeat with_reducible refine And.intro (by first | omega | (with_reducible exact lens) | (simp [maxLen_eq] <;> omega)) ?_); (try (with_reducible refine hK _ ?_; clear hK K))))
    simp only [go_sem, fN, ↓gI, ↓pI, seval, FinQ, AS.result, resAll, resOne, tupV]
    rw [hl]
    rfl
end Go.Proofs.YtehnjhkndbcmgaaGreatDoor
