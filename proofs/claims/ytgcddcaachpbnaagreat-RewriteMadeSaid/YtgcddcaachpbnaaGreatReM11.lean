/-
  Proved: for known rules and terms made of raw numbers, the three statements on rewriting hold: the law RewriteMade returns true. Conditions: none.
-/
import Derived.Test.YtgcddcaachpbnaaGreatReM10
import Derived.Test.YtgcddcaachpbnaaGreatRows
import Derived.ProofKit
import Derived.OpenShut
import Derived.JoinedCond
import Derived.Deep.Slices
namespace Go.Proofs.YtgcddcaachpbnaaGreat
open Go
set_option linter.unusedVariables false
def La (s : ByteArray) (i : Nat) : ByteArray := s.extract i s.size
theorem Rq (s : ByteArray) (i : Nat) : (La s i).size = s.size - i := by
 unfold La
 rw [ByteArray.size_extract]
 omega
theorem tail_drop {s : ByteArray} {i n : Nat} (h : i + n ≤ s.size) : (La s i).extract n (La s i).size = La s (i + n) := by
 rw [Rq]
 unfold La
 rw [ByteArray.extract_extract]
 congr 1
 omega
def PG (s : ByteArray) : Nat → Nat → Nat
 | 0, i => i
 | k + 1, i => if BD (Ap s i) = true then PG s k (i + 1) else i
def Ae (s : ByteArray) (i : Nat) : Nat := PG s (s.size - i) i
theorem SX {s : ByteArray} {i : Nat} (h : i < s.size) (hl : BD (Ap s i) = true) : Ae s i = Ae s (i + 1) := by
 unfold Ae
 obtain ⟨k, hk⟩ : ∃ k, s.size - i = k + 1 := ⟨s.size - i - 1, by omega⟩
 rw [hk, show s.size - (i + 1) = k by omega, PG, if_pos hl]
theorem Pl {s : ByteArray} {i : Nat} (h : i < s.size) (hl : ¬ BD (Ap s i) = true) : Ae s i = i := by
 unfold Ae
 obtain ⟨k, hk⟩ : ∃ k, s.size - i = k + 1 := ⟨s.size - i - 1, by omega⟩
 rw [hk, PG, if_neg hl]
theorem Qx {s : ByteArray} {i : Nat} (h : s.size ≤ i) : Ae s i = i := by
 unfold Ae
 rw [show s.size - i = 0 by omega]
 rfl
theorem P0 (s : ByteArray) : ∀ k i : Nat, i ≤ PG s k i ∧ PG s k i ≤ i + k
 | 0, i => ⟨Nat.le_refl _, Nat.le_refl _⟩
 | k + 1, i => by
  rw [PG]
  split
  ·have := P0 s k (i + 1)
   omega
  ·omega
theorem NN {s : ByteArray} {i : Nat} (h : i ≤ s.size) : i ≤ Ae s i ∧ Ae s i ≤ s.size := by
 have := P0 s (s.size - i) i
 unfold Ae
 omega
structure Rd where
 t : Tm
 i : Nat
 k : Nat
 e : Int
mutual
def rd (s : ByteArray) : Nat → Nat → Nat → Rd
 | 0, i, k => ⟨.mk ⟨#[]⟩ [], i, k, 99⟩
 | f + 1, i, k =>
  if Ae s i = i then ⟨.mk ⟨#[]⟩ [], i, k, if i = s.size then 13 else 12⟩
  else if A5 (s.extract i (Ae s i)) = true then
   if 200 < k + 1 then ⟨.mk (s.extract i (Ae s i)) [], Ae s i, k + 1, 3⟩
   else if Ae s i = s.size ∨ Ap s (Ae s i) ≠ 40 then ⟨.mk (s.extract i (Ae s i)) [], Ae s i, k + 1, 0⟩
   else if A0 (s.extract i (Ae s i)) = true then ⟨.mk (s.extract i (Ae s i)) [], Ae s i, k + 1, 2⟩
   else rdA s f (s.extract i (Ae s i)) [] (Ae s i) (k + 1)
  else ⟨.mk (s.extract i (Ae s i)) [], Ae s i, k, 1⟩
def rdA (s : ByteArray) : Nat → ByteArray → List Tm → Nat → Nat → Rd
 | 0, n, acc, i, k => ⟨.mk ⟨#[]⟩ [], i, k, 99⟩
 | f + 1, n, acc, i, k =>
  if (rd s f (i + 1) k).e = 0 then
   if (rd s f (i + 1) k).i = s.size then ⟨.mk n (acc ++ [(rd s f (i + 1) k).t]), (rd s f (i + 1) k).i, (rd s f (i + 1) k).k, 13⟩
   else if Ap s (rd s f (i + 1) k).i = 41 then ⟨.mk n (acc ++ [(rd s f (i + 1) k).t]), (rd s f (i + 1) k).i + 1, (rd s f (i + 1) k).k, 0⟩
   else if Ap s (rd s f (i + 1) k).i = 44 then rdA s f n (acc ++ [(rd s f (i + 1) k).t]) (rd s f (i + 1) k).i (rd s f (i + 1) k).k
   else ⟨.mk n (acc ++ [(rd s f (i + 1) k).t]), (rd s f (i + 1) k).i, (rd s f (i + 1) k).k, 12⟩
  else ⟨.mk n acc, (rd s f (i + 1) k).i, (rd s f (i + 1) k).k, (rd s f (i + 1) k).e⟩
end
structure U9 (s : ByteArray) (i k : Nat) (r : Rd) : Prop where
 le : i ≤ r.i
 in_ : r.i ≤ s.size
 knots : k ≤ r.k
 most : r.k ≤ 201
 ok : r.e = 0 → i < r.i ∧ r.k ≤ 200 ∧ k < r.k ∧ r.t.size ≤ r.k - k
 err : 0 ≤ r.e ∧ r.e ≤ 13
structure U4 (s : ByteArray) (acc : List Tm) (i k : Nat) (r : Rd) : Prop where
 le : i ≤ r.i
 in_ : r.i ≤ s.size
 knots : k ≤ r.k
 most : r.k ≤ 201
 ok : r.e = 0 → i < r.i ∧ r.k ≤ 200 ∧ k < r.k ∧ r.t.size ≤ (r.k - k) + (1 + Tm.sizes acc)
 err : 0 ≤ r.e ∧ r.e ≤ 13
theorem KH (xs : List Tm) (a : Tm) : Tm.sizes (xs ++ [a]) = Tm.sizes xs + a.size := by
 rw [Tm.sizes_append]
 simp [Tm.sizes]
mutual
theorem UO (s : ByteArray) : ∀ f i k : Nat, i ≤ s.size → k ≤ 200 → 2 * (s.size - i) < f → U9 s i k (rd s f i k)
 | 0, i, k, _, _, h => absurd h (Nat.not_lt_zero _)
 | f + 1, i, k, hi, hk, hf => by
  obtain ⟨l1, l2⟩ := NN hi
  rw [rd]
  by_cases h0 : Ae s i = i
  ·rw [if_pos h0]
   by_cases h1 : i = s.size
   ·rw [if_pos h1]
    exact ⟨Nat.le_refl _, hi, Nat.le_refl _, by show k ≤ 201; omega, fun h => absurd h (by show ¬ (13 : Int) = 0; decide), by show (0 : Int) ≤ 13 ∧ (13 : Int) ≤ 13; decide⟩
   ·rw [if_neg h1]
    exact ⟨Nat.le_refl _, hi, Nat.le_refl _, by show k ≤ 201; omega, fun h => absurd h (by show ¬ (12 : Int) = 0; decide), by show (0 : Int) ≤ 12 ∧ (12 : Int) ≤ 13; decide⟩
  ·rw [if_neg h0]
   by_cases h1 : A5 (s.extract i (Ae s i)) = true
   ·rw [if_pos h1]
    by_cases h2 : 200 < k + 1
    ·rw [if_pos h2]
     exact ⟨l1, l2, Nat.le_succ _, by show k + 1 ≤ 201; omega, fun h => absurd h (by show ¬ (3 : Int) = 0; decide), by show (0 : Int) ≤ 3 ∧ (3 : Int) ≤ 13; decide⟩
    ·rw [if_neg h2]
     by_cases h3 : Ae s i = s.size ∨ Ap s (Ae s i) ≠ 40
     ·rw [if_pos h3]
      exact ⟨l1, l2, Nat.le_succ _, by show k + 1 ≤ 201; omega, fun _ => ⟨by show i < Ae s i; omega, by show k + 1 ≤ 200; omega, Nat.lt_succ_self _, by show (Tm.mk _ []).size ≤ k + 1 - k; simp [Tm.size, Tm.sizes]⟩, by show (0 : Int) ≤ 0 ∧ (0 : Int) ≤ 13; decide⟩
     ·rw [if_neg h3]
      by_cases h4 : A0 (s.extract i (Ae s i)) = true
      ·rw [if_pos h4]
       exact ⟨l1, l2, Nat.le_succ _, by show k + 1 ≤ 201; omega, fun h => absurd h (by show ¬ (2 : Int) = 0; decide), by show (0 : Int) ≤ 2 ∧ (2 : Int) ≤ 13; decide⟩
      ·rw [if_neg h4]
       have hlt : Ae s i < s.size := by
        have : Ae s i ≠ s.size := fun h => h3 (.inl h)
        omega
       have := SU s f (s.extract i (Ae s i)) [] (Ae s i) (k + 1) hlt (by omega) (by omega)
       refine ⟨Nat.le_trans l1 this.le, this.in_, by have := this.knots; omega, this.most, fun h => ?_, this.err⟩
       obtain ⟨q1, q2, q3, q4⟩ := this.ok h
       simp only [Tm.sizes] at q4
       exact ⟨by omega, q2, by omega, by omega⟩
   ·rw [if_neg h1]
    exact ⟨l1, l2, Nat.le_refl _, by show k ≤ 201; omega, fun h => absurd h (by show ¬ (1 : Int) = 0; decide), by show (0 : Int) ≤ 1 ∧ (1 : Int) ≤ 13; decide⟩
theorem SU (s : ByteArray) : ∀ (f : Nat) (n : ByteArray) (acc : List Tm) (i k : Nat), i < s.size → k ≤ 200 → 2 * (s.size - i) ≤ f → U4 s acc i k (rdA s f n acc i k)
 | 0, n, acc, i, k, hi, _, h => by omega
 | f + 1, n, acc, i, k, hi, hk, hf => by
  have h := UO s f (i + 1) k (by omega) hk (by omega)
  have hle := h.le
  have hin := h.in_
  have hkn := h.knots
  have hmo := h.most
  rw [rdA]
  generalize rd s f (i + 1) k = r at *
  by_cases h0 : r.e = 0
  ·obtain ⟨o1, o2, o3, o4⟩ := h.ok h0
   rw [if_pos h0]
   by_cases h1 : r.i = s.size
   ·rw [if_pos h1]
    exact ⟨by show i ≤ r.i; omega, hin, hkn, hmo, fun h => absurd h (by show ¬ (13 : Int) = 0; decide), by show (0 : Int) ≤ 13 ∧ (13 : Int) ≤ 13; decide⟩
   ·rw [if_neg h1]
    by_cases h2 : Ap s r.i = 41
    ·rw [if_pos h2]
     refine ⟨by show i ≤ r.i + 1; omega, by show r.i + 1 ≤ s.size; omega, hkn, hmo, fun _ => ⟨by show i < r.i + 1; omega, o2, o3, ?_⟩, by show (0 : Int) ≤ 0 ∧ (0 : Int) ≤ 13; decide⟩
     show 1 + Tm.sizes (acc ++ [r.t]) ≤ _
     rw [KH]
     show _ ≤ r.k - k + _
     omega
    ·rw [if_neg h2]
     by_cases h3 : Ap s r.i = 44
     ·rw [if_pos h3]
      have := SU s f n (acc ++ [r.t]) r.i r.k (by omega) o2 (by omega)
      refine ⟨by have := this.le; omega, this.in_, by have := this.knots; omega, this.most, fun h => ?_, this.err⟩
      obtain ⟨q1, q2, q3, q4⟩ := this.ok h
      rw [KH] at q4
      exact ⟨by omega, q2, by omega, by omega⟩
     ·rw [if_neg h3]
      exact ⟨by show i ≤ r.i; omega, hin, hkn, hmo, fun h => absurd h (by show ¬ (12 : Int) = 0; decide), by show (0 : Int) ≤ 12 ∧ (12 : Int) ≤ 13; decide⟩
  ·rw [if_neg h0]
   exact ⟨by show i ≤ r.i; omega, hin, hkn, hmo, fun h => absurd h h0, h.err⟩
end
def rdS (s : ByteArray) : Rd := rd s (2 * s.size + 1) 0 0
def Fj (s : ByteArray) : Tm × Int := if 4000 < s.size then (.mk ⟨#[]⟩ [], 3) else if (rdS s).e = 0 then (if (rdS s).i < s.size then (.mk ⟨#[]⟩ [], 12) else ((rdS s).t, 0)) else (.mk ⟨#[]⟩ [], (rdS s).e)

open Go.RowKit
set_option linter.unusedSimpArgs false
set_option maxHeartbeats 1000000
theorem IWP.cut {P : Program} {C : Ctx} {mu : List Nat} {Q : AX → AS → Prop} {s : AS} {x : IR} (id : Nat) (M : AS → Prop) (h1 : IWP P C mu x (fun e s => e = .exit id ∧ M s) s) (h2 : ∀ s, M s → Q (.exit id) s) : IWP P C mu x Q s :=
 h1.mono fun e s h => by
  obtain ⟨rfl, hm⟩ := h
  exact h2 s hm
abbrev Oq : AL := .box 25 [.st (.str ⟨#[]⟩), .full []]
def rdV (r : Rd) : AV := .tup [aTm r.t, AO r.i, AO r.k, AO r.e]
theorem UJ {s : ByteArray} {f i k : Nat} (h0 : Ae s i = i) : rd s (f + 1) i k = ⟨.mk ⟨#[]⟩ [], i, k, if i = s.size then 13 else 12⟩ := by rw [rd, if_pos h0]
theorem T7 {s : ByteArray} {f i k : Nat} (h0 : ¬ Ae s i = i) (h1 : ¬ A5 (s.extract i (Ae s i)) = true) : rd s (f + 1) i k = ⟨.mk (s.extract i (Ae s i)) [], Ae s i, k, 1⟩ := by rw [rd, if_neg h0, if_neg h1]
theorem SN {s : ByteArray} {f i k : Nat} (h0 : ¬ Ae s i = i) (h1 : A5 (s.extract i (Ae s i)) = true) (h2 : 200 < k + 1) : rd s (f + 1) i k = ⟨.mk (s.extract i (Ae s i)) [], Ae s i, k + 1, 3⟩ := by rw [rd, if_neg h0, if_pos h1, if_pos h2]
theorem P2 {s : ByteArray} {f i k : Nat} (h0 : ¬ Ae s i = i) (h1 : A5 (s.extract i (Ae s i)) = true) (h2 : ¬ 200 < k + 1) (h3 : Ae s i = s.size ∨ Ap s (Ae s i) ≠ 40) : rd s (f + 1) i k = ⟨.mk (s.extract i (Ae s i)) [], Ae s i, k + 1, 0⟩ := by rw [rd, if_neg h0, if_pos h1, if_neg h2, if_pos h3]
theorem UN {s : ByteArray} {f i k : Nat} (h0 : ¬ Ae s i = i) (h1 : A5 (s.extract i (Ae s i)) = true) (h2 : ¬ 200 < k + 1) (h3 : ¬ (Ae s i = s.size ∨ Ap s (Ae s i) ≠ 40)) (h4 : A0 (s.extract i (Ae s i)) = true) : rd s (f + 1) i k = ⟨.mk (s.extract i (Ae s i)) [], Ae s i, k + 1, 2⟩ := by rw [rd, if_neg h0, if_pos h1, if_neg h2, if_neg h3, if_pos h4]
theorem T1 {s : ByteArray} {f i k : Nat} (h0 : ¬ Ae s i = i) (h1 : A5 (s.extract i (Ae s i)) = true) (h2 : ¬ 200 < k + 1) (h3 : ¬ (Ae s i = s.size ∨ Ap s (Ae s i) ≠ 40)) (h4 : ¬ A0 (s.extract i (Ae s i)) = true) : rd s (f + 1) i k = rdA s f (s.extract i (Ae s i)) [] (Ae s i) (k + 1) := by rw [rd, if_neg h0, if_pos h1, if_neg h2, if_neg h3, if_neg h4]
theorem TZ {s : ByteArray} {f : Nat} {n : ByteArray} {acc : List Tm} {i k : Nat} (h : ¬ (rd s f (i + 1) k).e = 0) : rdA s (f + 1) n acc i k = ⟨.mk n acc, (rd s f (i + 1) k).i, (rd s f (i + 1) k).k, (rd s f (i + 1) k).e⟩ := by rw [rdA, if_neg h]
theorem Rj {s : ByteArray} {f : Nat} {n : ByteArray} {acc : List Tm} {i k : Nat} (h : (rd s f (i + 1) k).e = 0) (h1 : (rd s f (i + 1) k).i = s.size) : rdA s (f + 1) n acc i k = ⟨.mk n (acc ++ [(rd s f (i + 1) k).t]), (rd s f (i + 1) k).i, (rd s f (i + 1) k).k, 13⟩ := by rw [rdA, if_pos h, if_pos h1]
theorem RJ {s : ByteArray} {f : Nat} {n : ByteArray} {acc : List Tm} {i k : Nat} (h : (rd s f (i + 1) k).e = 0) (h1 : ¬ (rd s f (i + 1) k).i = s.size) (h2 : Ap s (rd s f (i + 1) k).i = 41) : rdA s (f + 1) n acc i k = ⟨.mk n (acc ++ [(rd s f (i + 1) k).t]), (rd s f (i + 1) k).i + 1, (rd s f (i + 1) k).k, 0⟩ := by rw [rdA, if_pos h, if_neg h1, if_pos h2]
theorem Ul {s : ByteArray} {f : Nat} {n : ByteArray} {acc : List Tm} {i k : Nat} (h : (rd s f (i + 1) k).e = 0) (h1 : ¬ (rd s f (i + 1) k).i = s.size) (h2 : ¬ Ap s (rd s f (i + 1) k).i = 41) (h3 : Ap s (rd s f (i + 1) k).i = 44) : rdA s (f + 1) n acc i k = rdA s f n (acc ++ [(rd s f (i + 1) k).t]) (rd s f (i + 1) k).i (rd s f (i + 1) k).k := by rw [rdA, if_pos h, if_neg h1, if_neg h2, if_pos h3]
theorem SL {s : ByteArray} {f : Nat} {n : ByteArray} {acc : List Tm} {i k : Nat} (h : (rd s f (i + 1) k).e = 0) (h1 : ¬ (rd s f (i + 1) k).i = s.size) (h2 : ¬ Ap s (rd s f (i + 1) k).i = 41) (h3 : ¬ Ap s (rd s f (i + 1) k).i = 44) : rdA s (f + 1) n acc i k = ⟨.mk n (acc ++ [(rd s f (i + 1) k).t]), (rd s f (i + 1) k).i, (rd s f (i + 1) k).k, 12⟩ := by rw [rdA, if_pos h, if_neg h1, if_neg h2, if_neg h3]
theorem Fu (acc : List Tm) (a : Tm) : (acc ++ [a]).map Al = acc.map Al ++ [[.str a.name, .list (a.args.map Al)]] := by
 rw [List.map_append, List.map_cons, List.map_nil, BI a]
theorem UV (s : ByteArray) (hs : s.size ≤ 100000) : ∀ f i k : Nat, i ≤ s.size → k ≤ 200 → 2 * (s.size - i) < f → AN Tryz.prog 58 [CP s, AO i, AO k] (rdV (rd s f i k)) := by
 intro f
 induction f using Nat.strongRecOn with
 | _ f ih =>
 intro i k hi hk hf
 obtain ⟨f, rfl⟩ : ∃ g, f = g + 1 := ⟨f - 1, by omega⟩
 obtain ⟨l1, l2⟩ := NN hi
 refine Ri.ac fun C hC => ?_
 unfold Lt
 repeat' with_reducible first | refine W ?_ | refine Z0 ?_ | ((first | refine Wo fun K hK => ?_ | refine Wp ?_ | refine Wq ?_ | refine Wr ?_); (try simp only [go_sem, fN, seval, eT, iR, dT, dF, nL]); (repeat refine Ai ?_); (try (refine hK _ ?_; clear hK K)); try refine iC ?_)
 refine IWP.cut 0 (fun x => x.env 0 = CP s ∧ x.env 1 = AO (Ae s i) ∧ x.env 2 = AO k ∧ x.env 10 = AO i ∧ x.env 6 = .one (.ptr 6 1 0 0) ∧ x.S 6 = some Oq ∧ x.S 11 = none ∧ x.S 12 = none ∧ x.S 900 = none) ?_ ?_
 ·refine IWP.loop (fun m x => ∃ j, i ≤ j ∧ j ≤ s.size ∧ m = s.size - j ∧ Ae s i = Ae s j ∧ x.env 0 = CP s ∧ x.env 1 = AO j ∧ x.env 2 = AO k ∧ x.env 10 = AO i ∧ x.env 6 = .one (.ptr 6 1 0 0) ∧ x.S 6 = some Oq ∧ x.S 11 = none ∧ x.S 12 = none ∧ x.S 900 = none) (s.size - i) ⟨i, Nat.le_refl _, hi, rfl, rfl, rfl, rfl, rfl, rfl, rfl, rfl, rfl, rfl, rfl⟩ ?_
  rintro m ⟨env, S⟩ ⟨j, hij, hj, rfl, hl, e0, e1, e2, e10, e6, s6, s11, s12, s900⟩
  simp only at e0 e1 e2 e10 e6 s6 s11 s12 s900
  by_cases hlt : (j : Int) < s.size
  ·have hb := Ep s j
   by_cases hlet : BD (EA s j) = true
   ·repeat' (first | (with_reducible first | refine W ?_ | refine Z0 ?_ | ((first | refine Wo fun K hK => ?_ | refine Wp ?_ | refine Wq ?_ | refine Wr ?_); (try simp only [go_sem, fN, seval, eT, iR, e0, e1, e2, e10, e6, s6, hlt, hlet, dT, dF, nL]); (repeat refine Ai ?_); (try (refine hK _ ?_; clear hK K)); try refine iC ?_)) | refine Cg _ (GY (EA s j) hb.1) ?_)
    refine AF ⟨s.size - (j + 1), by omega, j + 1, by omega, by omega, rfl, ?_, ?_⟩
    ·rw [hl]
     exact SX (by omega) hlet
    ·simp only [go_sem, fN, seval, eT, iR, e0, e1, e2, e10, e6, s6, s11, s12, s900]
     congr 3
   ·have hst : Ae s j = j := Pl (by omega) hlet
    repeat' (first | (with_reducible first | refine W ?_ | refine Z0 ?_ | ((first | refine Wo fun K hK => ?_ | refine Wp ?_ | refine Wq ?_ | refine Wr ?_); (try simp only [go_sem, fN, seval, eT, iR, e0, e1, e2, e10, e6, s6, hlt, hlet, dT, dF, nL]); (repeat refine Ai ?_); (try (refine hK _ ?_; clear hK K)); try refine iC ?_)) | refine Cg _ (GY (EA s j) hb.1) ?_)
    refine ⟨rfl, ?_⟩
    simp only [go_sem, fN, seval, eT, iR, e0, e1, e2, e10, e6, s6, s11, s12, s900]
    rw [hl, hst]
  ·have hst : Ae s j = j := Qx (by omega)
   repeat' with_reducible first | refine W ?_ | refine Z0 ?_ | ((first | refine Wo fun K hK => ?_ | refine Wp ?_ | refine Wq ?_ | refine Wr ?_); (try simp only [go_sem, fN, seval, eT, iR, e0, e1, e2, e10, e6, s6, hlt, dT, dF, nL]); (repeat refine Ai ?_); (try (refine hK _ ?_; clear hK K)); try refine iC ?_)
   refine ⟨rfl, ?_⟩
   simp only [go_sem, fN, seval, eT, iR, e0, e1, e2, e10, e6, s6, s11, s12, s900]
   rw [hl, hst]
 rintro ⟨env, S⟩ ⟨e0, e1, e2, e10, e6, s6, s11, s12, s900⟩
 simp only at e0 e1 e2 e10 e6 s6 s11 s12 s900
 by_cases h0 : Ae s i = i
 ·rw [UJ h0]
  rw [h0] at e1
  unfold rdV
  by_cases hsz : i = s.size
  ·have hszi : (i : Int) = s.size := by omega
   rw [if_pos hsz]
   repeat' with_reducible first | refine W ?_ | refine Z0 ?_ | ((first | refine Wo fun K hK => ?_ | refine Wp ?_ | refine Wq ?_ | refine Wr ?_); (try simp only [go_sem, fN, seval, eT, iR, e0, e1, e2, e10, e6, s6, hszi, dT, dF, nL]); (repeat refine Ai ?_); (try (refine hK _ ?_; clear hK K)); try refine iC ?_)
   simp only [go_sem, fN, seval, AK, AS.result, AB, AD, AI, e6, s6]
   rfl
  ·have hszi : ¬ (i : Int) = s.size := by omega
   rw [if_neg hsz]
   repeat' with_reducible first | refine W ?_ | refine Z0 ?_ | ((first | refine Wo fun K hK => ?_ | refine Wp ?_ | refine Wq ?_ | refine Wr ?_); (try simp only [go_sem, fN, seval, eT, iR, e0, e1, e2, e10, e6, s6, hszi, dT, dF, nL]); (repeat refine Ai ?_); (try (refine hK _ ?_; clear hK K)); try refine iC ?_)
   simp only [go_sem, fN, seval, AK, AS.result, AB, AD, AI, e6, s6]
   rfl
 have h0i : ¬ ((Ae s i : Nat) : Int) = i := by omega
 by_cases h1 : A5 (s.extract i (Ae s i)) = true
 case neg =>
  rw [T7 h0 h1]
  unfold rdV
  repeat' (first | (with_reducible first | refine W ?_ | refine Z0 ?_ | ((first | refine Wo fun K hK => ?_ | refine Wp ?_ | refine Wq ?_ | refine Wr ?_); (try simp only [go_sem, fN, seval, eT, iR, e0, e1, e2, e10, e6, s6, s11, h0i, h1, dT, dF, nL]); (repeat refine Ai ?_); (try (refine hK _ ?_; clear hK K)); try refine iC ?_)) | refine Cg _ (Dn (s.extract i (Ae s i))) ?_)
  simp only [go_sem, fN, seval, AK, AS.result, AB, AD, AI, e6, s6]
  rfl
 case pos =>
 by_cases h2 : 200 < k + 1
 ·have h2i : (200 : Int) < k + 1 := by omega
  rw [SN h0 h1 h2]
  unfold rdV
  repeat' (first | (with_reducible first | refine W ?_ | refine Z0 ?_ | ((first | refine Wo fun K hK => ?_ | refine Wp ?_ | refine Wq ?_ | refine Wr ?_); (try simp only [go_sem, fN, seval, eT, iR, e0, e1, e2, e10, e6, s6, s11, h0i, h1, h2i, dT, dF, nL]); (repeat refine Ai ?_); (try (refine hK _ ?_; clear hK K)); try refine iC ?_)) | refine Cg _ (Dn (s.extract i (Ae s i))) ?_)
  simp only [go_sem, fN, seval, AK, AS.result, AB, AD, AI, e6, s6]
  rfl
 have h2i : ¬ (200 : Int) < k + 1 := by omega
 by_cases h3 : Ae s i = s.size
 ·have h3i : ((Ae s i : Nat) : Int) = s.size := by omega
  have h0s : ¬ (s.size : Int) = i := by omega
  rw [P2 h0 h1 h2 (.inl h3)]
  unfold rdV
  rw [h3] at h1 e1
  rw [h3]
  repeat' (first | (with_reducible first | refine W ?_ | refine Z0 ?_ | ((first | refine Wo fun K hK => ?_ | refine Wp ?_ | refine Wq ?_ | refine Wr ?_); (try simp only [go_sem, fN, seval, eT, iR, e0, e1, e2, e10, e6, s6, s11, h0s, h1, h2i, dT, dF, nL]); (repeat refine Ai ?_); (try (refine hK _ ?_; clear hK K)); try refine iC ?_)) | refine Cg _ (Dn (s.extract i s.size)) ?_)
  simp only [go_sem, fN, seval, AK, AS.result, AB, AD, AI, e6, s6]
  rfl
 have h3i : ¬ ((Ae s i : Nat) : Int) = s.size := by omega
 by_cases h3' : EA s (Ae s i) = 40
 case neg =>
  rw [P2 h0 h1 h2 (.inr h3')]
  unfold rdV
  repeat' (first | (with_reducible first | refine W ?_ | refine Z0 ?_ | ((first | refine Wo fun K hK => ?_ | refine Wp ?_ | refine Wq ?_ | refine Wr ?_); (try simp only [go_sem, fN, seval, eT, iR, e0, e1, e2, e10, e6, s6, s11, h0i, h1, h2i, h3i, h3', dT, dF, nL]); (repeat refine Ai ?_); (try (refine hK _ ?_; clear hK K)); try refine iC ?_)) | refine Cg _ (Dn (s.extract i (Ae s i))) ?_)
  simp only [go_sem, fN, seval, AK, AS.result, AB, AD, AI, e6, s6]
  rfl
 case pos =>
 have h3n : ¬ (Ae s i = s.size ∨ Ap s (Ae s i) ≠ 40) := fun h => h.elim h3 (fun h => h h3')
 by_cases h4 : A0 (s.extract i (Ae s i)) = true
 ·rw [UN h0 h1 h2 h3n h4]
  unfold rdV
  repeat' (first | (with_reducible first | refine W ?_ | refine Z0 ?_ | ((first | refine Wo fun K hK => ?_ | refine Wp ?_ | refine Wq ?_ | refine Wr ?_); (try simp only [go_sem, fN, seval, eT, iR, e0, e1, e2, e10, e6, s6, s11, h0i, h1, h2i, h3i, h3', h4, dT, dF, nL]); (repeat refine Ai ?_); (try (refine hK _ ?_; clear hK K)); try refine iC ?_)) | refine Cg _ (Dn (s.extract i (Ae s i))) ?_ | refine Cg _ (E4 (s.extract i (Ae s i))) ?_)
  simp only [go_sem, fN, seval, AK, AS.result, AB, AD, AI, e6, s6]
  rfl
 rw [T1 h0 h1 h2 h3n h4]
 have hlt0 : Ae s i < s.size := by omega
 have hf0 : 2 * (s.size - Ae s i) ≤ f := by omega
 clear h0
 obtain ⟨n, hn⟩ : ∃ n, s.extract i (Ae s i) = n := ⟨_, rfl⟩
 rw [hn] at h1 h4 ⊢
 generalize Ae s i = to at *
 repeat' (first | (with_reducible first | refine W ?_ | refine Z0 ?_ | ((first | refine Wo fun K hK => ?_ | refine Wp ?_ | refine Wq ?_ | refine Wr ?_); (try simp only [go_sem, fN, seval, eT, iR, e0, e1, e2, e10, e6, s6, s11, h0i, h1, h2i, h3i, h3', h4, hn, dT, dF, nL]); (repeat refine Ai ?_); (try (refine hK _ ?_; clear hK K)); try refine iC ?_)) | refine Cg _ (Dn n) ?_ | refine Cg _ (E4 n) ?_)
 refine IWP.ghost (Aa.ownC 11 1 900 25 2 (xs := ([] : List Tm).map Al) rfl rfl (by simp only [go_sem, fN, seval, eT, iR, s900, s11]) C3) ?_
 refine IWP.loopD [12] (fun m x => ∃ (g : Nat) (acc : List Tm) (j c : Nat), rdA s f n [] to (k + 1) = rdA s g n acc j c ∧ m = s.size - j ∧ 2 * (s.size - j) ≤ g ∧ g ≤ f ∧ j < s.size ∧ c ≤ 200 ∧ acc.length ≤ c ∧ x.env 0 = CP s ∧ x.env 1 = AO j ∧ x.env 2 = AO c ∧ x.env 6 = .one (.ptr 6 1 0 0) ∧ x.env 11 = .one (.ptr 11 1 0 0) ∧ x.S 6 = some Oq ∧ x.S 11 = some (.box 25 [.st (.str n), .row 900 acc.length]) ∧ x.S 900 = some (.arow 25 2 (acc.map Al)) ∧ x.S 12 = none)
  (s.size - to) ⟨f, [], to, k + 1, rfl, rfl, hf0, Nat.le_refl _, hlt0, by omega, by simp, ?_⟩ ?_
 ·simp only [go_sem, fN, seval, eT, iR, e0, e1, e2, e10, e6, s6, s11, s12, s900]
  exact ⟨by congr 3, rfl⟩
 rintro m ⟨env, S⟩ ⟨g, acc, j, c, hrd, rfl, hg, hgf, hj, hc, hac, e0, e1, e2, e6, e11, s6, s11, s900, s12⟩
 simp only at e0 e1 e2 e6 e11 s6 s11 s900 s12
 rw [hrd]
 obtain ⟨g, rfl⟩ : ∃ g', g = g' + 1 := ⟨g - 1, by omega⟩
 have hcall := ih g (by omega) (j + 1) c (by omega) hc (by omega)
 have hok := UO s g (j + 1) c (by omega) hc (by omega)
 rw [show ((j + 1 : Nat) : Int) = (j : Int) + 1 by omega] at hcall
 have hle := hok.le
 have hin := hok.in_
 have hal : (acc.map Al).length = acc.length := List.length_map _
 by_cases q0 : (rd s g (j + 1) c).e = 0
 case neg =>
  rw [TZ q0]
  unfold rdV at hcall ⊢
  repeat' (first | (with_reducible first | refine W ?_ | refine Z0 ?_ | ((first | refine Wo fun K hK => ?_ | refine Wp ?_ | refine Wq ?_ | refine Wr ?_); (try simp only [go_sem, fN, seval, eT, iR, e0, e1, e2, e6, e11, s6, s11, s900, s12, q0, dT, dF, nL]); (repeat refine Ai ?_); (try (refine hK _ ?_; clear hK K)); try refine iC ?_)) | refine Cg _ (hcall) ?_)
  simp only [go_sem, fN, seval, AK, AS.result, AB, AD, AI, e6, s6, s11, s900]
  rfl
 case pos =>
 obtain ⟨o1, o2, o3, o4⟩ := hok.ok q0
 by_cases q1 : (rd s g (j + 1) c).i = s.size
 ·have q1i : (((rd s g (j + 1) c).i : Nat) : Int) = s.size := by omega
  rw [Rj q0 q1]
  unfold rdV at hcall ⊢
  repeat' (first | (with_reducible first | refine W ?_ | refine Z0 ?_ | ((first | refine Wo fun K hK => ?_ | refine Wp ?_ | refine Wq ?_ | refine Wr ?_); (try simp only [go_sem, fN, seval, eT, iR, e0, e1, e2, e6, e11, s6, s11, s900, s12, q0, q1i, dT, dF, nL]); (repeat refine Ai ?_); (try (refine hK _ ?_; clear hK K)); try refine iC ?_)) | refine Cg _ (hcall) ?_)
  simp only [go_sem, fN, seval, AK, AS.result, AB, AD, AI, e6, s6, s11, s900]
  rw [← Fu]
  rfl
 have q1i : ¬ (((rd s g (j + 1) c).i : Nat) : Int) = s.size := by omega
 by_cases q2 : EA s (rd s g (j + 1) c).i = 41
 ·rw [RJ q0 q1 q2]
  unfold rdV at hcall ⊢
  repeat' (first | (with_reducible first | refine W ?_ | refine Z0 ?_ | ((first | refine Wo fun K hK => ?_ | refine Wp ?_ | refine Wq ?_ | refine Wr ?_); (try simp only [go_sem, fN, seval, eT, iR, e0, e1, e2, e6, e11, s6, s11, s900, s12, q0, q1i, q2, dT, dF, nL]); (repeat refine Ai ?_); (try (refine hK _ ?_; clear hK K)); try refine iC ?_)) | refine Cg _ (hcall) ?_)
  simp only [go_sem, fN, seval, AK, AS.result, AB, AD, AI, e6, s6, s11, s900]
  rw [← Fu]
  rfl
 by_cases q3 : EA s (rd s g (j + 1) c).i = 44
 ·rw [Ul q0 q1 q2 q3]
  unfold rdV at hcall
  repeat' (first | (with_reducible first | refine W ?_ | refine Z0 ?_ | ((first | refine Wo fun K hK => ?_ | refine Wp ?_ | refine Wq ?_ | refine Wr ?_); (try simp only [go_sem, fN, seval, eT, iR, e0, e1, e2, e6, e11, s6, s11, s900, s12, q0, q1i, q2, q3, dT, dF, nL]); (repeat refine Ai ?_); (try (refine hK _ ?_; clear hK K)); try refine iC ?_)) | refine Cg _ (hcall) ?_)
  refine AF ⟨s.size - (rd s g (j + 1) c).i, by omega, g, acc ++ [(rd s g (j + 1) c).t], (rd s g (j + 1) c).i, (rd s g (j + 1) c).k, rfl, rfl, by omega, by omega, by omega, o2, by simp; omega, ?_⟩
  simp only [go_sem, fN, seval, AS.drop, Ac, AC.clears, AC.clear, AC.highs, AC.high, Bool.not_false, Bool.true_and, Bool.and_self, AV.purge, AV.purges, AC.purge, AL.purge, List.contains_cons, List.contains_nil, Nat.reduceBEq, Bool.or_self, Bool.or_false, Bool.false_or, Bool.or_true, eT, iR, e0, e1, e2, e6, e11, s6, s11, s900, s12]
  rw [Fu]
 ·rw [SL q0 q1 q2 q3]
  unfold rdV at hcall ⊢
  repeat' (first | (with_reducible first | refine W ?_ | refine Z0 ?_ | ((first | refine Wo fun K hK => ?_ | refine Wp ?_ | refine Wq ?_ | refine Wr ?_); (try simp only [go_sem, fN, seval, eT, iR, e0, e1, e2, e6, e11, s6, s11, s900, s12, q0, q1i, q2, q3, dT, dF, nL]); (repeat refine Ai ?_); (try (refine hK _ ?_; clear hK K)); try refine iC ?_)) | refine Cg _ (hcall) ?_)
  simp only [go_sem, fN, seval, AK, AS.result, AB, AD, AI, e6, s6, s11, s900]
  rw [← Fu]
  rfl
def Lp (r : Tm × Int) : AV := .tup [aTm r.1, AO r.2]
theorem QU (s : ByteArray) : AN Tryz.prog 32 [CP s] (Lp (Fj s)) := by
 have hro : Fj s = if 4000 < s.size then (.mk ⟨#[]⟩ [], 3) else if (rdS s).e = 0 then (if (rdS s).i < s.size then (.mk ⟨#[]⟩ [], 12) else ((rdS s).t, 0)) else (.mk ⟨#[]⟩ [], (rdS s).e) := rfl
 refine Rt.ac fun C hC => ?_
 unfold LA
 by_cases h0 : (4000 : Int) < s.size
 ·rw [hro, if_pos (by omega)]
  unfold Lp
  repeat' with_reducible first | refine W ?_ | refine Z0 ?_ | ((first | refine Wo fun K hK => ?_ | refine Wp ?_ | refine Wq ?_ | refine Wr ?_); (try simp only [go_sem, fN, seval, eT, iR, h0, dT, dF, nL]); (repeat refine Ai ?_); (try (refine hK _ ?_; clear hK K)); try refine iC ?_)
  simp only [go_sem, fN, seval, AK, AS.result, AB, AD, AI]
  rfl
 rw [hro, if_neg (by omega)]
 have hcall := UV s (by omega) (2 * s.size + 1) 0 0 (by omega) (by omega) (by omega)
 have hr : rd s (2 * s.size + 1) 0 0 = rdS s := rfl
 rw [hr] at hcall
 unfold rdV at hcall
 by_cases h1 : (rdS s).e = 0
 ·rw [if_pos h1]
  by_cases h2 : (rdS s).i < s.size
  ·have h2i : ((rdS s).i : Int) < s.size := by omega
   rw [if_pos h2]
   unfold Lp
   repeat' (first | (with_reducible first | refine W ?_ | refine Z0 ?_ | ((first | refine Wo fun K hK => ?_ | refine Wp ?_ | refine Wq ?_ | refine Wr ?_); (try simp only [go_sem, fN, seval, eT, iR, h0, h1, h2i, dT, dF, nL]); (repeat refine Ai ?_); (try (refine hK _ ?_; clear hK K)); try refine iC ?_)) | refine Cg _ (hcall) ?_)
   simp only [go_sem, fN, seval, AK, AS.result, AB, AD, AI]
   rfl
  ·have h2i : ¬ ((rdS s).i : Int) < s.size := by omega
   rw [if_neg h2]
   unfold Lp
   repeat' (first | (with_reducible first | refine W ?_ | refine Z0 ?_ | ((first | refine Wo fun K hK => ?_ | refine Wp ?_ | refine Wq ?_ | refine Wr ?_); (try simp only [go_sem, fN, seval, eT, iR, h0, h1, h2i, dT, dF, nL]); (repeat refine Ai ?_); (try (refine hK _ ?_; clear hK K)); try refine iC ?_)) | refine Cg _ (hcall) ?_)
   simp only [go_sem, fN, seval, AK, AS.result, AB, AD, AI]
 ·rw [if_neg h1]
  unfold Lp
  repeat' (first | (with_reducible first | refine W ?_ | refine Z0 ?_ | ((first | refine Wo fun K hK => ?_ | refine Wp ?_ | refine Wq ?_ | refine Wr ?_); (try simp only [go_sem, fN, seval, eT, iR, h0, h1, dT, dF, nL]); (repeat refine Ai ?_); (try (refine hK _ ?_; clear hK K)); try refine iC ?_)) | refine Cg _ (hcall) ?_)
  simp only [go_sem, fN, seval, AK, AS.result, AB, AD, AI]
  rfl

set_option maxRecDepth 100000
def Fs : IR :=
 (.seq (.ops [.i 2 (.mov (.c (.one (.full []))))]) (.seq (.ops [.i 11 (.buildFlat [.c (.one (.st (.str (ByteArray.mk (#[102, 40, 97, 44, 88, 41]))))), .c (.one (.st (.str (ByteArray.mk (#[88]))))), .c (.one (.st (.str (ByteArray.mk (#[102, 40, 104, 40, 88, 41, 44, 89, 41]))))), .c (.one (.st (.str (ByteArray.mk (#[104, 40, 102, 40, 88, 44, 89, 41, 41])))))]), .i 12 (.buildFlat [.c (.one (.st (.str (ByteArray.mk (#[102, 40, 88, 44, 97, 41]))))), .c (.one (.st (.str (ByteArray.mk (#[88]))))), .c (.one (.st (.str (ByteArray.mk (#[102, 40, 88, 44, 104, 40, 89, 41, 41]))))), .c (.one (.st (.str (ByteArray.mk (#[104, 40, 102, 40, 88, 44, 89, 41, 41]))))), .c (.one (.st (.str (ByteArray.mk (#[102, 40, 97, 44, 88, 41]))))), .c (.one (.st (.str (ByteArray.mk (#[88])))))]), .i 13 (.buildFlat [.c (.one (.st (.str (ByteArray.mk (#[102, 40, 102, 40, 88, 44, 89, 41, 44, 90, 41]))))), .c (.one (.st (.str (ByteArray.mk (#[102, 40, 88, 44, 102, 40, 89, 44, 90, 41, 41])))))]), .i 14 (.buildFlat [.c (.one (.st (.str (ByteArray.mk (#[107, 40, 107, 40, 88, 41, 41]))))), .c (.one (.st (.str (ByteArray.mk (#[88]))))), .c (.one (.st (.str (ByteArray.mk (#[107, 40, 97, 41]))))), .c (.one (.st (.str (ByteArray.mk (#[97]))))), .c (.one (.st (.str (ByteArray.mk (#[107, 40, 102, 40, 88, 44, 89, 41, 41]))))), .c (.one (.st (.str (ByteArray.mk (#[102, 40, 107, 40, 89, 41, 44, 107, 40, 88, 41, 41])))))]), .i 15 (.buildFlat [.c (.one (.st (.str (ByteArray.mk (#[102, 40, 88, 44, 88, 41]))))), .c (.one (.st (.str (ByteArray.mk (#[88])))))]), .i 16 (.buildFlat [.c (.one (.st (.str (ByteArray.mk (#[104, 40, 107, 40, 88, 41, 41]))))), .c (.one (.st (.str (ByteArray.mk (#[107, 40, 104, 40, 88, 41, 41]))))), .c (.one (.st (.str (ByteArray.mk (#[104, 40, 104, 40, 88, 41, 41]))))), .c (.one (.st (.str (ByteArray.mk (#[104, 40, 88, 41])))))]), .i 17 (.buildFlat [.c (.one (.st (.str (ByteArray.mk (#[102, 40, 97, 44, 98, 41]))))), .c (.one (.st (.str (ByteArray.mk (#[99]))))), .c (.one (.st (.str (ByteArray.mk (#[97]))))), .c (.one (.st (.str (ByteArray.mk (#[98])))))]), .i 18 (.buildFlat [.c (.one (.st (.str (ByteArray.mk (#[103, 40, 88, 44, 89, 41]))))), .c (.one (.st (.str (ByteArray.mk (#[102, 40, 89, 44, 88, 41])))))]), .i 19 (.buildFlat [.c (.one (.st (.str (ByteArray.mk (#[104, 40, 97, 41]))))), .c (.one (.st (.str (ByteArray.mk (#[98]))))), .c (.one (.st (.str (ByteArray.mk (#[104, 40, 97, 41]))))), .c (.one (.st (.str (ByteArray.mk (#[99])))))]), .i 20 (.buildFlat [.c (.one (.st (.str (ByteArray.mk (#[102, 40, 88, 44, 103, 40, 89, 44, 90, 41, 41]))))), .c (.one (.st (.str (ByteArray.mk (#[103, 40, 102, 40, 88, 44, 89, 41, 44, 102, 40, 88, 44, 90, 41, 41])))))]), .i 21 (.buildSlice false 31 1 [.t 11, .t 12, .t 13, .t 14, .t 15, .t 16, .t 17, .t 18, .t 19, .t 20]), .m 3 21]) (.seq (.ops [.m 22 3, .m 23 0, .m 24 3, .i 25 (.len false (.t 24)), .i 26 (.call 15 [.t 23, .t 25]), .i 27 (.indexAddr 1 (.t 22) (.t 26)), .l 28 27, .m 4 28]) (.seq (.ops [.i 5 (.mov (.c (.one (.full []))))]) (.seq (.seq (.ops [.i 6 (.mov (.n 0))]) (.block 0 (.loop (.seq (.seq (.ops [.m 29 6, .i 30 (.bin .add (.t 29) (.n 1)), .m 31 4, .i 32 (.len false (.t 31)), .i 33 (.bin .lss (.t 30) (.t 32))]) (.cond (.t 33) .skip (.exit 0))) (.seq (.block 1 (.seq (.ops [.m 37 4, .m 38 6, .i 39 (.indexAddr 1 (.t 37) (.t 38)), .l 40 39, .i 41 (.call 32 [.t 40]), .m 36 41, .i 42 (.extract 0 (.t 36)), .i 43 (.extract 1 (.t 36)), .i 7 (.alloc 25 [.st (.str (ByteArray.mk (#[]))), .full []]), .s 2 7 42, .m 8 43]) (.seq (.ops [.m 45 4, .m 46 6, .i 47 (.bin .add (.t 46) (.n 1)), .i 48 (.indexAddr 1 (.t 45) (.t 47)), .l 49 48, .i 50 (.call 32 [.t 49]), .m 44 50, .i 51 (.extract 0 (.t 44)), .i 52 (.extract 1 (.t 44)), .i 9 (.alloc 25 [.st (.str (ByteArray.mk (#[]))), .full []]), .s 2 9 51, .m 10 52]) (.ops [.m 53 5, .L 54 2 7, .L 55 2 9, .i 56 (.build [.st (.str (ByteArray.mk (#[]))), .full [], .st (.str (ByteArray.mk (#[]))), .full []] [(0, 2, .t 54), (2, 2, .t 55)]), .i 57 (.buildSlice false 34 4 [.t 56]), .i 58 (.append false 34 4 80 (.t 53) (.t 57)), .m 5 58])))) (.ops [.m 34 6, .i 35 (.bin .add (.t 34) (.n 2)), .m 6 35])))))) (.seq (.ops [.m 59 5, .m 2 59]) .ret))))))
theorem KY : OkF Tryz.prog 13 60 [] Fs [.t 2] := .of Tryz.func13 rfl rfl (by kernel_rfl) rfl

def LF : IR :=
 (.seq (.ops [.i 4 (.mov (.n 0))]) (.seq (.seq (.ops [.m 5 0, .i 6 (.bin .lss (.t 5) (.n 0))]) (.cond (.t 6) (.ops [.m 7 0, .i 8 (.bin .add (.t 7) (.n 1)), .i 9 (.un .neg (.t 8)), .m 0 9]) .skip)) (.seq (.ops [.m 10 0, .m 11 1, .i 12 (.bin .rem (.t 10) (.t 11)), .m 4 12]) .ret)))
theorem RM : OkF Tryz.prog 15 13 [] LF [.t 4] := .of Tryz.func15 rfl rfl (by kernel_rfl) rfl
def N2 : IR :=
 (.seq (.ops [.i 4 (.mov (.n 0))]) (.seq (.seq (.ops [.m 5 0, .i 6 (.len false (.t 5)), .i 7 (.bin .eql (.t 6) (.n 0))]) (.cond (.t 7) (.seq (.ops [.m 8 1, .i 9 (.bin .mul (.t 8) (.n 31)), .m 4 9]) .ret) .skip)) (.seq (.ops [.m 10 0, .m 11 1, .m 12 0, .i 13 (.len false (.t 12)), .i 14 (.bin .rem (.t 11) (.t 13)), .i 15 (.indexAddr 1 (.t 10) (.t 14)), .l 16 15, .i 17 (.call 15 [.t 16, .n 1000003]), .m 18 1, .m 19 0, .i 20 (.len false (.t 19)), .i 21 (.bin .quo (.t 18) (.t 20)), .i 22 (.bin .mul (.t 21) (.n 7919)), .i 23 (.bin .add (.t 17) (.t 22)), .m 4 23]) .ret)))
theorem Sa : OkF Tryz.prog 59 24 [] N2 [.t 4] := .of Tryz.func59 rfl rfl (by kernel_rfl) rfl
def L2 : IR :=
 (.seq (.ops [.i 2 (.alloc 25 [.st (.str (ByteArray.mk (#[]))), .full []])]) (.seq (.ops [.m 3 0, .i 4 (.build [.st (.str (ByteArray.mk (#[]))), .full []] [(0, 1, .t 3)]), .s 2 2 4]) .ret))
theorem RK : OkF Tryz.prog 60 5 [] L2 [.cell 2 true 2] := .of Tryz.func60 rfl rfl (by kernel_rfl) rfl
def Dg : IR :=
 (.seq (.ops [.i 8 (.alloc 25 [.st (.str (ByteArray.mk (#[]))), .full []]), .i 9 (.mov (.n 0))]) (.seq (.ops [.m 18 0, .m 19 1, .i 20 (.call 59 [.t 18, .t 19]), .m 10 20]) (.seq (.ops [.m 21 1, .i 22 (.bin .add (.t 21) (.n 1)), .m 1 22]) (.seq (.seq (.ops [.m 23 2, .i 24 (.bin .lss (.t 23) (.n 3)), .m 25 24, .mk (some 26) (some (25, false)) (.mov (.t 10)) .no, .mk (some 27) (some (25, false)) (.call 15 [.t 26, .n 5]) .no, .mk (some 28) (some (25, false)) (.bin .lss (.t 27) (.n 2)) .no, .i 29 (.pick (.t 25) (.c (.one (.st (.bool true)))) (.t 28))]) (.cond (.t 29) (.seq (.seq (.ops [.m 30 3, .i 31 (.bin .gtr (.t 30) (.n 0)), .m 32 31, .mk (some 33) (some (32, true)) (.mov (.t 10)) .no, .mk (some 34) (some (32, true)) (.bin .quo (.t 33) (.n 5)) .no, .mk (some 35) (some (32, true)) (.call 15 [.t 34, .n 3]) .no, .mk (some 36) (some (32, true)) (.bin .gtr (.t 35) (.n 0)) .no, .i 37 (.pick (.t 32) (.t 36) (.c (.one (.st (.bool false)))))]) (.cond (.t 37) (.seq (.ops [.i 38 (.buildFlat [.c (.one (.st (.str (ByteArray.mk (#[88]))))), .c (.one (.st (.str (ByteArray.mk (#[89]))))), .c (.one (.st (.str (ByteArray.mk (#[90]))))), .c (.one (.st (.str (ByteArray.mk (#[85])))))]), .m 39 10, .i 40 (.bin .quo (.t 39) (.n 15)), .m 41 3, .i 42 (.call 15 [.t 40, .t 41]), .i 43 (.indexAddr 1 (.t 38) (.t 42)), .l 44 43, .i 45 (.call 60 [.t 44]), .m 46 1, .s 2 8 45, .m 9 46]) .ret) .skip)) (.seq (.ops [.i 47 (.buildFlat [.c (.one (.st (.str (ByteArray.mk (#[97]))))), .c (.one (.st (.str (ByteArray.mk (#[98]))))), .c (.one (.st (.str (ByteArray.mk (#[99])))))]), .m 48 10, .i 49 (.bin .quo (.t 48) (.n 15)), .i 50 (.call 15 [.t 49, .n 3]), .i 51 (.indexAddr 1 (.t 47) (.t 50)), .l 52 51, .i 53 (.call 60 [.t 52]), .m 54 1, .s 2 8 53, .m 9 54]) .ret)) .skip)) (.seq (.seq (.ops [.m 55 10, .i 56 (.bin .quo (.t 55) (.n 5)), .i 57 (.call 15 [.t 56, .n 4])]) (.block 0 (.seq (.ops [.i 59 (.bin .eql (.t 57) (.n 0)), .m 58 59]) (.cond (.t 58) (.seq (.ops [.m 61 0, .m 62 1, .m 63 2, .i 64 (.bin .sub (.t 63) (.n 1)), .m 65 3, .i 66 (.call 33 [.t 61, .t 62, .t 64, .t 65]), .m 60 66, .i 67 (.extract 0 (.t 60)), .i 68 (.extract 1 (.t 60)), .i 11 (.alloc 25 [.st (.str (ByteArray.mk (#[]))), .full []]), .s 2 11 67, .m 12 68]) (.seq (.ops [.L 69 2 11, .i 70 (.buildSlice false 25 2 [.t 69]), .i 71 (.build [.st (.str (ByteArray.mk (#[]))), .full []] [(0, 1, .c (.one (.st (.str (ByteArray.mk (#[104])))))), (1, 1, .t 70)]), .m 72 12, .s 2 8 71, .m 9 72]) .ret)) (.seq (.ops [.i 74 (.bin .eql (.t 57) (.n 1)), .m 73 74]) (.cond (.t 73) (.seq (.ops [.m 76 0, .m 77 1, .m 78 2, .i 79 (.bin .sub (.t 78) (.n 1)), .m 80 3, .i 81 (.call 33 [.t 76, .t 77, .t 79, .t 80]), .m 75 81, .i 82 (.extract 0 (.t 75)), .i 83 (.extract 1 (.t 75)), .i 13 (.alloc 25 [.st (.str (ByteArray.mk (#[]))), .full []]), .s 2 13 82, .m 14 83]) (.seq (.ops [.L 84 2 13, .i 85 (.buildSlice false 25 2 [.t 84]), .i 86 (.build [.st (.str (ByteArray.mk (#[]))), .full []] [(0, 1, .c (.one (.st (.str (ByteArray.mk (#[107])))))), (1, 1, .t 85)]), .m 87 14, .s 2 8 86, .m 9 87]) .ret)) .skip)))))) (.seq (.ops [.m 89 0, .m 90 1, .m 91 2, .i 92 (.bin .quo (.t 91) (.n 2)), .m 93 3, .i 94 (.call 33 [.t 89, .t 90, .t 92, .t 93]), .m 88 94, .i 95 (.extract 0 (.t 88)), .i 96 (.extract 1 (.t 88)), .i 15 (.alloc 25 [.st (.str (ByteArray.mk (#[]))), .full []]), .s 2 15 95, .m 16 96]) (.seq (.ops [.m 98 0, .m 99 16, .m 100 2, .i 101 (.bin .quo (.t 100) (.n 2)), .m 102 3, .i 103 (.call 33 [.t 98, .t 99, .t 101, .t 102]), .m 97 103, .i 104 (.extract 0 (.t 97)), .i 105 (.extract 1 (.t 97)), .i 17 (.alloc 25 [.st (.str (ByteArray.mk (#[]))), .full []]), .s 2 17 104, .m 16 105]) (.seq (.ops [.i 106 (.buildFlat [.c (.one (.st (.str (ByteArray.mk (#[102]))))), .c (.one (.st (.str (ByteArray.mk (#[103])))))]), .m 107 10, .i 108 (.bin .quo (.t 107) (.n 5)), .i 109 (.call 15 [.t 108, .n 4]), .i 110 (.bin .sub (.t 109) (.n 2)), .i 111 (.indexAddr 1 (.t 106) (.t 110)), .l 112 111, .L 113 2 15, .L 114 2 17, .i 115 (.buildSlice false 25 2 [.t 113, .t 114]), .i 116 (.build [.st (.str (ByteArray.mk (#[]))), .full []] [(0, 1, .t 112), (1, 1, .t 115)]), .m 117 16, .s 2 8 116, .m 9 117]) .ret))))))))
theorem EV : OkF Tryz.prog 33 118 [] Dg [.cell 8 true 2, .t 9] := .of Tryz.func33 rfl rfl (by kernel_rfl) rfl
def In : IR :=
 (.seq (.ops [.i 8 (.alloc 25 [.st (.str (ByteArray.mk (#[]))), .full []])]) (.seq (.ops [.m 12 0, .m 13 1, .m 14 2, .m 15 3, .i 16 (.call 33 [.t 12, .t 13, .t 14, .t 15]), .m 11 16, .i 17 (.extract 0 (.t 11)), .i 18 (.extract 1 (.t 11)), .i 9 (.alloc 25 [.st (.str (ByteArray.mk (#[]))), .full []]), .s 2 9 17, .m 10 18]) (.seq (.ops [.L 19 2 9, .s 2 8 19]) .ret)))
theorem Nc : OkF Tryz.prog 14 20 [] In [.cell 8 true 2] := .of Tryz.func14 rfl rfl (by kernel_rfl) rfl

def DK (c n : Int) : Int := (if c < 0 then -(c + 1) else c) % n
theorem Bp (c n : Int) (hn : 1 ≤ n) : 0 ≤ DK c n ∧ DK c n < n := ⟨Int.emod_nonneg _ (by omega), Int.emod_lt_of_pos _ (by omega)⟩
theorem Gd {x n : Int} (hx : 0 ≤ x) (hn : 1 ≤ n) : x.tmod n = x % n ∧ 0 ≤ x % n ∧ x % n < n ∧ x % n ≤ x := by
 rw [Int.tmod_eq_emod_of_nonneg hx]
 refine ⟨rfl, Int.emod_nonneg _ (by omega), Int.emod_lt_of_pos _ (by omega), ?_⟩
 by_cases h : x < n
 ·rw [Int.emod_eq_of_lt hx h]; exact Int.le_refl _
 ·have := Int.emod_lt_of_pos x (show 0 < n by omega); omega
theorem E3 {x n : Int} (hx : 0 ≤ x) (hn : 1 ≤ n) : x.tdiv n = x / n ∧ 0 ≤ x / n ∧ x / n ≤ x := by
 rw [Int.tdiv_eq_ediv_of_nonneg hx]
 exact ⟨rfl, Int.ediv_nonneg hx (by omega), Int.ediv_le_self _ hx⟩
theorem En (c n : Int) (hc : inR .i64 c) (hn : 1 ≤ n) : AN Tryz.prog 15 [AO c, AO n] (AO (DK c n)) := by
 rw [EH] at hc
 refine RM.ac fun C hC => ?_
 unfold LF
 repeat' with_reducible first | refine W ?_ | refine Z0 ?_ | ((first | refine Wo fun K hK => ?_ | refine Wq ?_ | refine Wr ?_); (try simp only [go_sem, fN, seval, eT, iR]); (repeat refine Ai ?_); (try (refine hK _ ?_; clear hK K)))
 with_reducible refine Wp ?_
 simp only [go_sem, fN, seval, true_implies, false_implies, implies_true, dT, dF, nL]
 (try with_reducible refine iC ?_)
 refine ⟨fun h0 => ?_, fun h0 => ?_⟩
 ·have h1 := Gd (x := 0 - (c + 1)) (n := n) (by omega) hn
  repeat' with_reducible first | refine W ?_ | refine Z0 ?_ | ((first | refine Wo fun K hK => ?_ | refine Wq ?_ | refine Wr ?_); (try simp only [go_sem, fN, seval, eT, iR, h1.1]); (repeat refine Ai ?_); (try (refine hK _ ?_; clear hK K)))
  simp only [go_sem, fN, seval, AK, AS.result, AB, AD, AI]
  unfold DK
  rw [if_pos h0]
  congr 5
  omega
 ·have h1 := Gd (x := c) (n := n) (by omega) hn
  repeat' with_reducible first | refine W ?_ | refine Z0 ?_ | ((first | refine Wo fun K hK => ?_ | refine Wq ?_ | refine Wr ?_); (try simp only [go_sem, fN, seval, eT, iR, h1.1]); (repeat refine Ai ?_); (try (refine hK _ ?_; clear hK K)))
  simp only [go_sem, fN, seval, AK, AS.result, AB, AD, AI]
  unfold DK
  rw [if_neg h0]
def Pi (l : List Int) (i : Nat) : Int := if l.length = 0 then i * 31 else DK (l.getD (i % l.length) 0) 1000003 + ((i / l.length : Nat) : Int) * 7919
theorem Pm (l : List Int) (i : Nat) : 0 ≤ Pi l i ∧ Pi l i ≤ 1000003 + i * 7919 := by
 unfold Pi
 split
 ·omega
 ·have := Bp (l.getD (i % l.length) 0) 1000003 (by omega)
  have h2 : i / l.length ≤ i := Nat.div_le_self _ _
  generalize i / l.length = q at *
  omega
theorem U3 (l : List Int) (i : Nat) (hi : i ≤ 1000000) (hl : ∀ n ∈ l, inR .i64 n) (hm : l.length ≤ maxLen) : AN Tryz.prog 59 [FQ l, AO i] (AO (Pi l i)) := by
 rw [Df] at hm
 refine Sa.ac fun C hC => ?_
 unfold N2
 repeat' with_reducible first | refine W ?_ | refine Z0 ?_ | ((first | refine Wo fun K hK => ?_ | refine Wq ?_ | refine Wr ?_); (try simp only [go_sem, fN, seval, eT, iR]); (repeat refine Ai ?_); (try (refine hK _ ?_; clear hK K)))
 with_reducible refine Wp ?_
 simp only [go_sem, fN, seval, true_implies, false_implies, implies_true, dT, dF, nL]
 (try with_reducible refine iC ?_)
 refine ⟨fun h0 => ?_, fun h0 => ?_⟩
 ·repeat' with_reducible first | refine W ?_ | refine Z0 ?_ | ((first | refine Wo fun K hK => ?_ | refine Wq ?_ | refine Wr ?_); (try simp only [go_sem, fN, seval, eT, iR]); (repeat refine Ai ?_); (try (refine hK _ ?_; clear hK K)))
  simp only [go_sem, fN, seval, AK, AS.result, AB, AD, AI]
  unfold Pi
  rw [if_pos (by omega)]
 ·have h1 := Gd (x := (i : Int)) (n := (l.length : Int)) (by omega) (by omega)
  have h2 := E3 (x := (i : Int)) (n := (l.length : Int)) (by omega) (by omega)
  have hlt : i % l.length < l.length := Nat.mod_lt _ (by omega)
  obtain ⟨a, ha⟩ := Af hlt
  have e1 : ((i : Int) % (l.length : Int)) = ((i % l.length : Nat) : Int) := by omega
  have e2 : ((i : Int) / (l.length : Int)) = ((i / l.length : Nat) : Int) := by omega
  have h3 : i / l.length ≤ i := Nat.div_le_self _ _
  repeat' with_reducible first | refine W ?_ | refine Z0 ?_ | ((first | refine Wo fun K hK => ?_ | refine Wq ?_ | refine Wr ?_); (try simp only [go_sem, fN, seval, eT, iR, h1.1, h2.1, e1, e2, ha]); (repeat refine Ai ?_); (try (refine hK _ ?_; clear hK K)))
  refine ⟨_, En a 1000003 (hl a (AP ha)) (by omega), ?_⟩
  have hp := Bp a 1000003 (by omega)
  repeat' with_reducible first | refine W ?_ | refine Z0 ?_ | ((first | refine Wo fun K hK => ?_ | refine Wq ?_ | refine Wr ?_); (try simp only [go_sem, fN, seval, eT, iR, h1.1, h2.1, e1, e2]); (repeat refine Ai ?_); (try (refine hK _ ?_; clear hK K)))
  simp only [go_sem, fN, seval, AK, AS.result, AB, AD, AI]
  unfold Pi
  rw [if_neg (by omega), List.getD_eq_getElem?_getD, ha]
  rfl
theorem M1 (s : ByteArray) : AN Tryz.prog 60 [CP s] (aTm (.mk s [])) := by
 refine RK.ac fun C hC => ?_
 unfold L2
 repeat' with_reducible first | refine W ?_ | refine Z0 ?_ | ((first | refine Wo fun K hK => ?_ | refine Wq ?_ | refine Wr ?_); (try simp only [go_sem, fN, seval, eT, iR]); (repeat refine Ai ?_); (try (refine hK _ ?_; clear hK K)))
 simp only [go_sem, fN, seval, AK, AS.result, AB, AD, AI]
 rfl
theorem Jl {n : ByteArray} {xs : List Tm} (h1 : A5 n = true) (h2 : A0 n = false) (hx : ∀ x ∈ xs, x.chk = 0) : (Tm.mk n xs).chk = 0 := by
 have h0 : Ba (Tm.mk n xs) = 0 := by
  unfold Ba
  rw [Tm.name_mk, if_pos h1, if_neg (by rw [h2]; simp)]
 rw [Tm.chk_eq, if_pos h0, Tm.args_mk]
 induction xs with
 | nil => rfl
 | cons x xs ih =>
  simp only [Tm.chkL]
  rw [if_pos (hx x (by simp))]
  refine ih (fun y hy => hx y (by simp [hy])) ?_
  unfold Ba
  rw [Tm.name_mk, if_pos h1, if_neg (by rw [h2]; simp)]
def Dw (l : List Int) (at_ : Nat) (most vars : Int) (t : Tm) : Prop :=
 AN Tryz.prog 33 [FQ l, AO at_, AO most, AO vars] (.tup [aTm t, AO ((at_ + t.size : Nat) : Int)])
abbrev Cd : List ByteArray := [⟨#[88]⟩, ⟨#[89]⟩, ⟨#[90]⟩, ⟨#[85]⟩, ⟨#[97]⟩, ⟨#[98]⟩, ⟨#[99]⟩, ⟨#[102]⟩, ⟨#[103]⟩, ⟨#[104]⟩, ⟨#[107]⟩]
def JA (vars : Int) (t : Tm) : Prop := ∀ k ∈ t.knots, k.name ∈ Cd ∧ (vars = 1 → A0 k.name = true → k.name = ⟨#[88]⟩)
theorem MW {k : Tm} : ∀ {xs : List Tm}, k ∈ Tm.knotsL xs → ∃ x ∈ xs, k ∈ x.knots
 | [], h => by cases h
 | x :: xs, h => by
  rw [Tm.knotsL, List.mem_append] at h
  rcases h with h | h
  ·exact ⟨x, by simp, h⟩
  ·obtain ⟨y, hy, hk⟩ := MW h
   exact ⟨y, by simp [hy], hk⟩
theorem Dk {vars : Int} {n : ByteArray} {xs : List Tm} (hn : n ∈ Cd) (hv : A0 n = true → vars = 1 → n = ⟨#[88]⟩) (hx : ∀ x ∈ xs, JA vars x) : JA vars (.mk n xs) := by
 intro k hk
 rw [Tm.knots] at hk
 rcases List.mem_cons.1 hk with rfl | hk
 ·exact ⟨hn, fun h1 h2 => hv h2 h1⟩
 ·obtain ⟨x, hx', hk⟩ := MW hk
  exact hx x hx' k hk
mutual
def Tm.lvs : Tm → Nat
 | .mk _ xs => (if xs.isEmpty then 1 else 0) + Tm.lvsL xs
def Tm.lvsL : List Tm → Nat
 | [] => 0
 | t :: ts => t.lvs + Tm.lvsL ts
end
def GO (m : Nat) : Nat := if m < 3 then 1 else if m < 6 then 2 else if m < 10 then 4 else m
theorem LL (m : Nat) : 1 ≤ GO m := by unfold GO; split <;> (try split) <;> (try split) <;> omega
theorem MA {m : Nat} (h : 3 ≤ m) : GO (m - 1) ≤ GO m := by unfold GO; (repeat' split) <;> omega
theorem Q8 {m : Nat} (h : 3 ≤ m) : GO (m / 2) + GO (m / 2) ≤ GO m := by unfold GO; (repeat' split) <;> omega
def NoU (t : Tm) : Prop := ∀ k ∈ t.knots, k.name ≠ ⟨#[85]⟩
theorem KD {n : ByteArray} {xs : List Tm} (hn : n ≠ ⟨#[85]⟩) (hx : ∀ x ∈ xs, NoU x) : NoU (.mk n xs) := by
 intro k hk
 rw [Tm.knots] at hk
 rcases List.mem_cons.1 hk with rfl | hk
 ·exact hn
 ·obtain ⟨x, hx', hk⟩ := MW hk
  exact hx x hx' k hk
theorem Ud (l : List Int) (hl : ∀ n ∈ l, inR .i64 n) (hm : l.length ≤ maxLen) (vars : Int) (hv : 1 ≤ vars ∧ vars ≤ 4) : ∀ (most : Nat) (at_ : Nat), most ≤ 1000 → at_ + 2 * most ≤ 900000 → ∃ t : Tm, Dw l at_ most vars t ∧ t.size + 1 ≤ max 2 (2 * most) ∧ t.chk = 0 ∧ JA vars t ∧ (t.lvs ≤ GO most ∧ (vars = 3 → NoU t)) := by
 intro most
 induction most using Nat.strongRecOn with
 | _ most ih =>
 intro at_ h1000 hat
 have hraw := U3 l at_ (by omega) hl hm
 have hr := Pm l at_
 generalize Pi l at_ = c at hraw hr
 have d5 := E3 (x := c) (n := 5) (by omega) (by omega)
 have d15 := E3 (x := c) (n := 15) (by omega) (by omega)
 have p5 := En c 5 (by rw [EH]; omega) (by omega)
 have q5 := Bp c 5 (by omega)
 have p53 := En (c / 5) 3 (by rw [EH]; omega) (by omega)
 have q53 := Bp (c / 5) 3 (by omega)
 have p54 := En (c / 5) 4 (by rw [EH]; omega) (by omega)
 have q54 := Bp (c / 5) 4 (by omega)
 have p15 := En (c / 15) vars (by rw [EH]; omega) (by omega)
 have q15 := Bp (c / 15) vars (by omega)
 have p153 := En (c / 15) 3 (by rw [EH]; omega) (by omega)
 have q153 := Bp (c / 15) 3 (by omega)
 generalize DK c 5 = x5 at p5 q5
 generalize DK (c / 5) 3 = x53 at p53 q53
 generalize DK (c / 5) 4 = x54 at p54 q54
 generalize DK (c / 15) vars = x15 at p15 q15
 generalize DK (c / 15) 3 = x153 at p153 q153
 have hv0 : vars > 0 := by omega
 by_cases hleaf : (most : Int) < 3 ∨ x5 < 2
 ·by_cases hvar : 0 < x53
  ·obtain ⟨nm, hnm, hch, hX0, hX, hXU⟩ : ∃ nm, [([.str ⟨#[88]⟩] : List SV), [.str ⟨#[89]⟩], [.str ⟨#[90]⟩], [.str ⟨#[85]⟩]][x15.toNat]? = some [.str nm] ∧ (Tm.mk nm []).chk = 0 ∧ nm ∈ Cd ∧ (vars = 1 → nm = ⟨#[88]⟩) ∧ (vars = 3 → nm ≠ ⟨#[85]⟩) := by
    have : x15.toNat = 0 ∨ x15.toNat = 1 ∨ x15.toNat = 2 ∨ x15.toNat = 3 := by omega
    rcases this with h | h | h | h <;> rw [h] <;> first | exact ⟨_, rfl, by decide, by simp [Cd], fun _ => rfl, fun _ => by decide⟩ | exact ⟨_, rfl, by decide, by simp [Cd], fun h1 => by omega, fun _ => by decide⟩ | exact ⟨_, rfl, by decide, by simp [Cd], fun h1 => by omega, fun h1 => by omega⟩
   refine ⟨.mk nm [], ?_, by simp only [Tm.size, Tm.sizes]; omega, hch, Dk hX0 (fun _ h1 => hX h1) (by simp), (by have := LL most; simp [Tm.lvs, Tm.lvsL]; omega), fun h3 => KD (hXU h3) (by simp)⟩
   unfold Dw
   refine EV.ac fun C hC => ?_
   unfold Dg
   repeat' with_reducible first | refine W ?_ | refine Z0 ?_ | ((first | refine Wo fun K hK => ?_ | refine Wq ?_ | refine Wr ?_); (try simp only [go_sem, fN, seval, eT, iR]); (repeat refine Ai ?_); (try (refine hK _ ?_; clear hK K)))
   refine ⟨_, hraw, ?_⟩
   by_cases hm3 : (most : Int) < 3
   ·repeat' with_reducible first | refine W ?_ | refine Z0 ?_ | ((first | refine Wo fun K hK => ?_ | refine Wq ?_ | refine Wr ?_); (try simp only [go_sem, fN, seval, eT, iR, hm3]); (repeat refine Ai ?_); (try (refine hK _ ?_; clear hK K)))
    with_reducible refine Wp ?_
    simp only [go_sem, fN, seval, true_implies, false_implies, implies_true, dT, dF, nL]
    (try with_reducible refine iC ?_)
    repeat' with_reducible first | refine W ?_ | refine Z0 ?_ | ((first | refine Wo fun K hK => ?_ | refine Wq ?_ | refine Wr ?_); (try simp only [go_sem, fN, seval, eT, iR, hv0, d5.1]); (repeat refine Ai ?_); (try (refine hK _ ?_; clear hK K)))
    refine ⟨_, p53, ?_⟩
    repeat' with_reducible first | refine W ?_ | refine Z0 ?_ | ((first | refine Wo fun K hK => ?_ | refine Wq ?_ | refine Wr ?_); (try simp only [go_sem, fN, seval, eT, iR, hv0, d5.1, hvar]); (repeat refine Ai ?_); (try (refine hK _ ?_; clear hK K)))
    with_reducible refine Wp ?_
    simp only [go_sem, fN, seval, true_implies, false_implies, implies_true, dT, dF, nL]
    (try with_reducible refine iC ?_)
    repeat' with_reducible first | refine W ?_ | refine Z0 ?_ | ((first | refine Wo fun K hK => ?_ | refine Wq ?_ | refine Wr ?_); (try simp only [go_sem, fN, seval, eT, iR, d15.1]); (repeat refine Ai ?_); (try (refine hK _ ?_; clear hK K)))
    refine ⟨_, p15, ?_⟩
    repeat' with_reducible first | refine W ?_ | refine Z0 ?_ | ((first | refine Wo fun K hK => ?_ | refine Wq ?_ | refine Wr ?_); (try simp only [go_sem, fN, seval, eT, iR, hnm, q15.1]); (repeat refine Ai ?_); (try (refine hK _ ?_; clear hK K)))
    refine ⟨_, M1 nm, ?_⟩
    repeat' with_reducible first | refine W ?_ | refine Z0 ?_ | ((first | refine Wo fun K hK => ?_ | refine Wq ?_ | refine Wr ?_); (try simp only [go_sem, fN, seval, eT, iR]); (repeat refine Ai ?_); (try (refine hK _ ?_; clear hK K)))
    simp only [go_sem, fN, seval, AK, AS.result, AB, AD, AI]
    simp only [AV.tup.injEq, AV.agg.injEq, AV.one.injEq, AC.st.injEq, SV.int.injEq, SV.str.injEq, SV.bool.injEq, SV.list.injEq, List.cons.injEq, Option.some.injEq, true_and, and_true, eq_self, BI, Tm.args_mk, Tm.name_mk, List.map_cons, List.map_nil, List.map_append, Tm.size, Tm.sizes]
    omega
   ·have h5 : x5 < 2 := by omega
    repeat' (first | (with_reducible first | refine W ?_ | refine Z0 ?_ | ((first | refine Wo fun K hK => ?_ | refine Wq ?_ | refine Wr ?_); (try simp only [go_sem, fN, seval, eT, iR, hm3, h5]); (repeat refine Ai ?_); (try (refine hK _ ?_; clear hK K)))) | refine Cg _ (p5) ?_)
    with_reducible refine Wp ?_
    simp only [go_sem, fN, seval, true_implies, false_implies, implies_true, dT, dF, nL]
    (try with_reducible refine iC ?_)
    repeat' with_reducible first | refine W ?_ | refine Z0 ?_ | ((first | refine Wo fun K hK => ?_ | refine Wq ?_ | refine Wr ?_); (try simp only [go_sem, fN, seval, eT, iR, hv0, d5.1]); (repeat refine Ai ?_); (try (refine hK _ ?_; clear hK K)))
    refine ⟨_, p53, ?_⟩
    repeat' with_reducible first | refine W ?_ | refine Z0 ?_ | ((first | refine Wo fun K hK => ?_ | refine Wq ?_ | refine Wr ?_); (try simp only [go_sem, fN, seval, eT, iR, hv0, d5.1, hvar]); (repeat refine Ai ?_); (try (refine hK _ ?_; clear hK K)))
    with_reducible refine Wp ?_
    simp only [go_sem, fN, seval, true_implies, false_implies, implies_true, dT, dF, nL]
    (try with_reducible refine iC ?_)
    repeat' with_reducible first | refine W ?_ | refine Z0 ?_ | ((first | refine Wo fun K hK => ?_ | refine Wq ?_ | refine Wr ?_); (try simp only [go_sem, fN, seval, eT, iR, d15.1]); (repeat refine Ai ?_); (try (refine hK _ ?_; clear hK K)))
    refine ⟨_, p15, ?_⟩
    repeat' with_reducible first | refine W ?_ | refine Z0 ?_ | ((first | refine Wo fun K hK => ?_ | refine Wq ?_ | refine Wr ?_); (try simp only [go_sem, fN, seval, eT, iR, hnm, q15.1]); (repeat refine Ai ?_); (try (refine hK _ ?_; clear hK K)))
    refine ⟨_, M1 nm, ?_⟩
    repeat' with_reducible first | refine W ?_ | refine Z0 ?_ | ((first | refine Wo fun K hK => ?_ | refine Wq ?_ | refine Wr ?_); (try simp only [go_sem, fN, seval, eT, iR]); (repeat refine Ai ?_); (try (refine hK _ ?_; clear hK K)))
    simp only [go_sem, fN, seval, AK, AS.result, AB, AD, AI]
    simp only [AV.tup.injEq, AV.agg.injEq, AV.one.injEq, AC.st.injEq, SV.int.injEq, SV.str.injEq, SV.bool.injEq, SV.list.injEq, List.cons.injEq, Option.some.injEq, true_and, and_true, eq_self, BI, Tm.args_mk, Tm.name_mk, List.map_cons, List.map_nil, List.map_append, Tm.size, Tm.sizes]
    omega
  ·obtain ⟨nm, hnm, hch, hX0, hX⟩ : ∃ nm, [([.str ⟨#[97]⟩] : List SV), [.str ⟨#[98]⟩], [.str ⟨#[99]⟩]][x153.toNat]? = some [.str nm] ∧ (Tm.mk nm []).chk = 0 ∧ nm ∈ Cd ∧ A0 nm = false := by
    have : x153.toNat = 0 ∨ x153.toNat = 1 ∨ x153.toNat = 2 := by omega
    rcases this with h | h | h <;> rw [h] <;> exact ⟨_, rfl, by decide, by simp [Cd], by decide⟩
   refine ⟨.mk nm [], ?_, by simp only [Tm.size, Tm.sizes]; omega, hch, Dk hX0 (fun h => by rw [hX] at h; cases h) (by simp), (by have := LL most; simp [Tm.lvs, Tm.lvsL]; omega), fun h3 => KD (fun e => by rw [e] at hX; exact absurd hX (by decide)) (by simp)⟩
   unfold Dw
   refine EV.ac fun C hC => ?_
   unfold Dg
   repeat' with_reducible first | refine W ?_ | refine Z0 ?_ | ((first | refine Wo fun K hK => ?_ | refine Wq ?_ | refine Wr ?_); (try simp only [go_sem, fN, seval, eT, iR]); (repeat refine Ai ?_); (try (refine hK _ ?_; clear hK K)))
   refine ⟨_, hraw, ?_⟩
   by_cases hm3 : (most : Int) < 3
   ·repeat' with_reducible first | refine W ?_ | refine Z0 ?_ | ((first | refine Wo fun K hK => ?_ | refine Wq ?_ | refine Wr ?_); (try simp only [go_sem, fN, seval, eT, iR, hm3]); (repeat refine Ai ?_); (try (refine hK _ ?_; clear hK K)))
    with_reducible refine Wp ?_
    simp only [go_sem, fN, seval, true_implies, false_implies, implies_true, dT, dF, nL]
    (try with_reducible refine iC ?_)
    repeat' with_reducible first | refine W ?_ | refine Z0 ?_ | ((first | refine Wo fun K hK => ?_ | refine Wq ?_ | refine Wr ?_); (try simp only [go_sem, fN, seval, eT, iR, hv0, d5.1]); (repeat refine Ai ?_); (try (refine hK _ ?_; clear hK K)))
    refine ⟨_, p53, ?_⟩
    repeat' with_reducible first | refine W ?_ | refine Z0 ?_ | ((first | refine Wo fun K hK => ?_ | refine Wq ?_ | refine Wr ?_); (try simp only [go_sem, fN, seval, eT, iR, hv0, d5.1, hvar]); (repeat refine Ai ?_); (try (refine hK _ ?_; clear hK K)))
    with_reducible refine Wp ?_
    simp only [go_sem, fN, seval, true_implies, false_implies, implies_true, dT, dF, nL]
    (try with_reducible refine iC ?_)
    repeat' with_reducible first | refine W ?_ | refine Z0 ?_ | ((first | refine Wo fun K hK => ?_ | refine Wq ?_ | refine Wr ?_); (try simp only [go_sem, fN, seval, eT, iR, d15.1]); (repeat refine Ai ?_); (try (refine hK _ ?_; clear hK K)))
    refine ⟨_, p153, ?_⟩
    repeat' with_reducible first | refine W ?_ | refine Z0 ?_ | ((first | refine Wo fun K hK => ?_ | refine Wq ?_ | refine Wr ?_); (try simp only [go_sem, fN, seval, eT, iR, hnm, q153.1]); (repeat refine Ai ?_); (try (refine hK _ ?_; clear hK K)))
    refine ⟨_, M1 nm, ?_⟩
    repeat' with_reducible first | refine W ?_ | refine Z0 ?_ | ((first | refine Wo fun K hK => ?_ | refine Wq ?_ | refine Wr ?_); (try simp only [go_sem, fN, seval, eT, iR]); (repeat refine Ai ?_); (try (refine hK _ ?_; clear hK K)))
    simp only [go_sem, fN, seval, AK, AS.result, AB, AD, AI]
    simp only [AV.tup.injEq, AV.agg.injEq, AV.one.injEq, AC.st.injEq, SV.int.injEq, SV.str.injEq, SV.bool.injEq, SV.list.injEq, List.cons.injEq, Option.some.injEq, true_and, and_true, eq_self, BI, Tm.args_mk, Tm.name_mk, List.map_cons, List.map_nil, List.map_append, Tm.size, Tm.sizes]
    omega
   ·have h5 : x5 < 2 := by omega
    repeat' (first | (with_reducible first | refine W ?_ | refine Z0 ?_ | ((first | refine Wo fun K hK => ?_ | refine Wq ?_ | refine Wr ?_); (try simp only [go_sem, fN, seval, eT, iR, hm3, h5]); (repeat refine Ai ?_); (try (refine hK _ ?_; clear hK K)))) | refine Cg _ (p5) ?_)
    with_reducible refine Wp ?_
    simp only [go_sem, fN, seval, true_implies, false_implies, implies_true, dT, dF, nL]
    (try with_reducible refine iC ?_)
    repeat' with_reducible first | refine W ?_ | refine Z0 ?_ | ((first | refine Wo fun K hK => ?_ | refine Wq ?_ | refine Wr ?_); (try simp only [go_sem, fN, seval, eT, iR, hv0, d5.1]); (repeat refine Ai ?_); (try (refine hK _ ?_; clear hK K)))
    refine ⟨_, p53, ?_⟩
    repeat' with_reducible first | refine W ?_ | refine Z0 ?_ | ((first | refine Wo fun K hK => ?_ | refine Wq ?_ | refine Wr ?_); (try simp only [go_sem, fN, seval, eT, iR, hv0, d5.1, hvar]); (repeat refine Ai ?_); (try (refine hK _ ?_; clear hK K)))
    with_reducible refine Wp ?_
    simp only [go_sem, fN, seval, true_implies, false_implies, implies_true, dT, dF, nL]
    (try with_reducible refine iC ?_)
    repeat' with_reducible first | refine W ?_ | refine Z0 ?_ | ((first | refine Wo fun K hK => ?_ | refine Wq ?_ | refine Wr ?_); (try simp only [go_sem, fN, seval, eT, iR, d15.1]); (repeat refine Ai ?_); (try (refine hK _ ?_; clear hK K)))
    refine ⟨_, p153, ?_⟩
    repeat' with_reducible first | refine W ?_ | refine Z0 ?_ | ((first | refine Wo fun K hK => ?_ | refine Wq ?_ | refine Wr ?_); (try simp only [go_sem, fN, seval, eT, iR, hnm, q153.1]); (repeat refine Ai ?_); (try (refine hK _ ?_; clear hK K)))
    refine ⟨_, M1 nm, ?_⟩
    repeat' with_reducible first | refine W ?_ | refine Z0 ?_ | ((first | refine Wo fun K hK => ?_ | refine Wq ?_ | refine Wr ?_); (try simp only [go_sem, fN, seval, eT, iR]); (repeat refine Ai ?_); (try (refine hK _ ?_; clear hK K)))
    simp only [go_sem, fN, seval, AK, AS.result, AB, AD, AI]
    simp only [AV.tup.injEq, AV.agg.injEq, AV.one.injEq, AC.st.injEq, SV.int.injEq, SV.str.injEq, SV.bool.injEq, SV.list.injEq, List.cons.injEq, Option.some.injEq, true_and, and_true, eq_self, BI, Tm.args_mk, Tm.name_mk, List.map_cons, List.map_nil, List.map_append, Tm.size, Tm.sizes]
    omega
 ·have hm3 : ¬ (most : Int) < 3 := by omega
  have h5 : ¬ x5 < 2 := by omega
  by_cases h0 : x54 = 0
  ·obtain ⟨t, ht, hs, hc1, hX1, hL1, hU1⟩ := ih (most - 1) (by omega) (at_ + 1) (by omega) (by omega)
   unfold Dw at ht
   rw [show (((at_ + 1 : Nat) : Int)) = (at_ : Int) + 1 by omega, show (((most - 1 : Nat) : Int)) = (most : Int) - 1 by omega] at ht
   refine ⟨.mk ⟨#[104]⟩ [t], ?_, by simp only [Tm.size, Tm.sizes]; omega, Jl (by decide) (by decide) (by simp [hc1]), Dk (by simp [Cd]) (fun h => absurd h (by decide)) (by simp [hX1]), (by have := MA (m := most) (by omega); simp [Tm.lvs, Tm.lvsL]; omega), fun h3 => KD (by decide) (by simp [hU1 h3])⟩
   unfold Dw
   subst h0
   refine EV.ac fun C hC => ?_
   unfold Dg
   repeat' with_reducible first | refine W ?_ | refine Z0 ?_ | ((first | refine Wo fun K hK => ?_ | refine Wq ?_ | refine Wr ?_); (try simp only [go_sem, fN, seval, eT, iR]); (repeat refine Ai ?_); (try (refine hK _ ?_; clear hK K)))
   refine ⟨_, hraw, ?_⟩
   repeat' with_reducible first | refine W ?_ | refine Z0 ?_ | ((first | refine Wo fun K hK => ?_ | refine Wq ?_ | refine Wr ?_); (try simp only [go_sem, fN, seval, eT, iR, hm3]); (repeat refine Ai ?_); (try (refine hK _ ?_; clear hK K)))
   refine ⟨_, p5, ?_⟩
   repeat' with_reducible first | refine W ?_ | refine Z0 ?_ | ((first | refine Wo fun K hK => ?_ | refine Wq ?_ | refine Wr ?_); (try simp only [go_sem, fN, seval, eT, iR, h5]); (repeat refine Ai ?_); (try (refine hK _ ?_; clear hK K)))
   with_reducible refine Wp ?_
   simp only [go_sem, fN, seval, true_implies, false_implies, implies_true, dT, dF, nL]
   (try with_reducible refine iC ?_)
   repeat' with_reducible first | refine W ?_ | refine Z0 ?_ | ((first | refine Wo fun K hK => ?_ | refine Wq ?_ | refine Wr ?_); (try simp only [go_sem, fN, seval, eT, iR, d5.1]); (repeat refine Ai ?_); (try (refine hK _ ?_; clear hK K)))
   refine ⟨_, p54, ?_⟩
   repeat' with_reducible first | refine W ?_ | refine Z0 ?_ | ((first | refine Wo fun K hK => ?_ | refine Wq ?_ | refine Wr ?_); (try simp only [go_sem, fN, seval, eT, iR]); (repeat refine Ai ?_); (try (refine hK _ ?_; clear hK K)))
   with_reducible refine Wp ?_
   simp only [go_sem, fN, seval, true_implies, false_implies, implies_true, dT, dF, nL]
   (try with_reducible refine iC ?_)
   repeat' with_reducible first | refine W ?_ | refine Z0 ?_ | ((first | refine Wo fun K hK => ?_ | refine Wq ?_ | refine Wr ?_); (try simp only [go_sem, fN, seval, eT, iR]); (repeat refine Ai ?_); (try (refine hK _ ?_; clear hK K)))
   refine ⟨_, ht, ?_⟩
   repeat' with_reducible first | refine W ?_ | refine Z0 ?_ | ((first | refine Wo fun K hK => ?_ | refine Wq ?_ | refine Wr ?_); (try simp only [go_sem, fN, seval, eT, iR]); (repeat refine Ai ?_); (try (refine hK _ ?_; clear hK K)))
   simp only [go_sem, fN, seval, AK, AS.result, AB, AD, AI]
   simp only [AV.tup.injEq, AV.agg.injEq, AV.one.injEq, AC.st.injEq, SV.int.injEq, SV.str.injEq, SV.bool.injEq, SV.list.injEq, List.cons.injEq, Option.some.injEq, true_and, and_true, eq_self, BI, Tm.args_mk, Tm.name_mk, List.map_cons, List.map_nil, List.map_append, Tm.size, Tm.sizes]
   omega
  by_cases h1 : x54 = 1
  ·obtain ⟨t, ht, hs, hc1, hX1, hL1, hU1⟩ := ih (most - 1) (by omega) (at_ + 1) (by omega) (by omega)
   unfold Dw at ht
   rw [show (((at_ + 1 : Nat) : Int)) = (at_ : Int) + 1 by omega, show (((most - 1 : Nat) : Int)) = (most : Int) - 1 by omega] at ht
   refine ⟨.mk ⟨#[107]⟩ [t], ?_, by simp only [Tm.size, Tm.sizes]; omega, Jl (by decide) (by decide) (by simp [hc1]), Dk (by simp [Cd]) (fun h => absurd h (by decide)) (by simp [hX1]), (by have := MA (m := most) (by omega); simp [Tm.lvs, Tm.lvsL]; omega), fun h3 => KD (by decide) (by simp [hU1 h3])⟩
   unfold Dw
   subst h1
   refine EV.ac fun C hC => ?_
   unfold Dg
   repeat' with_reducible first | refine W ?_ | refine Z0 ?_ | ((first | refine Wo fun K hK => ?_ | refine Wq ?_ | refine Wr ?_); (try simp only [go_sem, fN, seval, eT, iR]); (repeat refine Ai ?_); (try (refine hK _ ?_; clear hK K)))
   refine ⟨_, hraw, ?_⟩
   repeat' with_reducible first | refine W ?_ | refine Z0 ?_ | ((first | refine Wo fun K hK => ?_ | refine Wq ?_ | refine Wr ?_); (try simp only [go_sem, fN, seval, eT, iR, hm3]); (repeat refine Ai ?_); (try (refine hK _ ?_; clear hK K)))
   refine ⟨_, p5, ?_⟩
   repeat' with_reducible first | refine W ?_ | refine Z0 ?_ | ((first | refine Wo fun K hK => ?_ | refine Wq ?_ | refine Wr ?_); (try simp only [go_sem, fN, seval, eT, iR, h5]); (repeat refine Ai ?_); (try (refine hK _ ?_; clear hK K)))
   with_reducible refine Wp ?_
   simp only [go_sem, fN, seval, true_implies, false_implies, implies_true, dT, dF, nL]
   (try with_reducible refine iC ?_)
   repeat' with_reducible first | refine W ?_ | refine Z0 ?_ | ((first | refine Wo fun K hK => ?_ | refine Wq ?_ | refine Wr ?_); (try simp only [go_sem, fN, seval, eT, iR, d5.1]); (repeat refine Ai ?_); (try (refine hK _ ?_; clear hK K)))
   refine ⟨_, p54, ?_⟩
   repeat' with_reducible first | refine W ?_ | refine Z0 ?_ | ((first | refine Wo fun K hK => ?_ | refine Wq ?_ | refine Wr ?_); (try simp only [go_sem, fN, seval, eT, iR]); (repeat refine Ai ?_); (try (refine hK _ ?_; clear hK K)))
   with_reducible refine Wp ?_
   simp only [go_sem, fN, seval, true_implies, false_implies, implies_true, dT, dF, nL]
   (try with_reducible refine iC ?_)
   repeat' with_reducible first | refine W ?_ | refine Z0 ?_ | ((first | refine Wo fun K hK => ?_ | refine Wq ?_ | refine Wr ?_); (try simp only [go_sem, fN, seval, eT, iR]); (repeat refine Ai ?_); (try (refine hK _ ?_; clear hK K)))
   with_reducible refine Wp ?_
   simp only [go_sem, fN, seval, true_implies, false_implies, implies_true, dT, dF, nL]
   (try with_reducible refine iC ?_)
   repeat' (first | (with_reducible first | refine W ?_ | refine Z0 ?_ | ((first | refine Wo fun K hK => ?_ | refine Wq ?_ | refine Wr ?_); (try simp only [go_sem, fN, seval, eT, iR]); (repeat refine Ai ?_); (try (refine hK _ ?_; clear hK K)))) | refine Cg _ (ht) ?_)
   simp only [go_sem, fN, seval, AK, AS.result, AB, AD, AI]
   simp only [AV.tup.injEq, AV.agg.injEq, AV.one.injEq, AC.st.injEq, SV.int.injEq, SV.str.injEq, SV.bool.injEq, SV.list.injEq, List.cons.injEq, Option.some.injEq, true_and, and_true, eq_self, BI, Tm.args_mk, Tm.name_mk, List.map_cons, List.map_nil, List.map_append, Tm.size, Tm.sizes]
   omega
  have d2 := E3 (x := (most : Int)) (n := 2) (by omega) (by omega)
  have e2 : (most : Int) / 2 = ((most / 2 : Nat) : Int) := by omega
  obtain ⟨t, ht, hs, hc1, hX1, hL1, hU1⟩ := ih (most / 2) (by omega) (at_ + 1) (by omega) (by omega)
  obtain ⟨u, hu, hs', hc2, hX2, hL2, hU2⟩ := ih (most / 2) (by omega) (at_ + 1 + t.size) (by omega) (by omega)
  obtain ⟨nm, hnm, hok, hnv, hin⟩ : ∃ nm, [([.str ⟨#[102]⟩] : List SV), [.str ⟨#[103]⟩]][(x54 - 2).toNat]? = some [.str nm] ∧ A5 nm = true ∧ A0 nm = false ∧ nm ∈ Cd := by
   have : (x54 - 2).toNat = 0 ∨ (x54 - 2).toNat = 1 := by omega
   rcases this with h | h <;> rw [h] <;> exact ⟨_, rfl, by decide, by decide, by simp [Cd]⟩
  refine ⟨.mk nm [t, u], ?_, by simp only [Tm.size, Tm.sizes]; omega, Jl hok hnv (by simp [hc1, hc2]), Dk hin (fun h => by rw [hnv] at h; cases h) (by simp [hX1, hX2]), (by have := Q8 (m := most) (by omega); simp [Tm.lvs, Tm.lvsL]; omega), fun h3 => KD (fun e => by rw [e] at hnv; exact absurd hnv (by decide)) (by simp [hU1 h3, hU2 h3])⟩
  unfold Dw at ht hu ⊢
  rw [show (((at_ + 1 : Nat) : Int)) = (at_ : Int) + 1 by omega] at ht
  refine EV.ac fun C hC => ?_
  unfold Dg
  repeat' with_reducible first | refine W ?_ | refine Z0 ?_ | ((first | refine Wo fun K hK => ?_ | refine Wq ?_ | refine Wr ?_); (try simp only [go_sem, fN, seval, eT, iR]); (repeat refine Ai ?_); (try (refine hK _ ?_; clear hK K)))
  refine ⟨_, hraw, ?_⟩
  repeat' with_reducible first | refine W ?_ | refine Z0 ?_ | ((first | refine Wo fun K hK => ?_ | refine Wq ?_ | refine Wr ?_); (try simp only [go_sem, fN, seval, eT, iR, hm3]); (repeat refine Ai ?_); (try (refine hK _ ?_; clear hK K)))
  refine ⟨_, p5, ?_⟩
  repeat' with_reducible first | refine W ?_ | refine Z0 ?_ | ((first | refine Wo fun K hK => ?_ | refine Wq ?_ | refine Wr ?_); (try simp only [go_sem, fN, seval, eT, iR, h5]); (repeat refine Ai ?_); (try (refine hK _ ?_; clear hK K)))
  with_reducible refine Wp ?_
  simp only [go_sem, fN, seval, true_implies, false_implies, implies_true, dT, dF, nL]
  (try with_reducible refine iC ?_)
  repeat' with_reducible first | refine W ?_ | refine Z0 ?_ | ((first | refine Wo fun K hK => ?_ | refine Wq ?_ | refine Wr ?_); (try simp only [go_sem, fN, seval, eT, iR, d5.1]); (repeat refine Ai ?_); (try (refine hK _ ?_; clear hK K)))
  refine ⟨_, p54, ?_⟩
  repeat' with_reducible first | refine W ?_ | refine Z0 ?_ | ((first | refine Wo fun K hK => ?_ | refine Wq ?_ | refine Wr ?_); (try simp only [go_sem, fN, seval, eT, iR]); (repeat refine Ai ?_); (try (refine hK _ ?_; clear hK K)))
  with_reducible refine Wp ?_
  simp only [go_sem, fN, seval, true_implies, false_implies, implies_true, dT, dF, nL, h0]
  (try with_reducible refine iC ?_)
  repeat' with_reducible first | refine W ?_ | refine Z0 ?_ | ((first | refine Wo fun K hK => ?_ | refine Wq ?_ | refine Wr ?_); (try simp only [go_sem, fN, seval, eT, iR]); (repeat refine Ai ?_); (try (refine hK _ ?_; clear hK K)))
  with_reducible refine Wp ?_
  simp only [go_sem, fN, seval, true_implies, false_implies, implies_true, dT, dF, nL, h1]
  (try with_reducible refine iC ?_)
  repeat' (first | (with_reducible first | refine W ?_ | refine Z0 ?_ | ((first | refine Wo fun K hK => ?_ | refine Wq ?_ | refine Wr ?_); (try simp only [go_sem, fN, seval, eT, iR, d2.1, e2, d5.1, hnm]); (repeat refine Ai ?_); (try (refine hK _ ?_; clear hK K)))) | refine Cg _ (ht) ?_ | refine Cg _ (hu) ?_ | refine Cg _ (p54) ?_)
  simp only [go_sem, fN, seval, AK, AS.result, AB, AD, AI]
  simp only [AV.tup.injEq, AV.agg.injEq, AV.one.injEq, AC.st.injEq, SV.int.injEq, SV.str.injEq, SV.bool.injEq, SV.list.injEq, List.cons.injEq, Option.some.injEq, true_and, and_true, eq_self, BI, Tm.args_mk, Tm.name_mk, List.map_cons, List.map_nil, List.map_append, Tm.size, Tm.sizes]
  omega
theorem Uo (l : List Int) (hl : ∀ n ∈ l, inR .i64 n) (hm : l.length ≤ maxLen) (vars : Int) (hv : 1 ≤ vars ∧ vars ≤ 4) (most at_ : Nat) (h1 : most ≤ 1000) (h2 : at_ + 2 * most ≤ 900000) : ∃ t : Tm, Dw l at_ most vars t ∧ t.size + 1 ≤ max 2 (2 * most) ∧ t.chk = 0 ∧ JA vars t := by
 obtain ⟨t, a, b, c, d, _⟩ := Ud l hl hm vars hv most at_ h1 h2
 exact ⟨t, a, b, c, d⟩
theorem Uv (l : List Int) (hl : ∀ n ∈ l, inR .i64 n) (hm : l.length ≤ maxLen) (vars : Int) (hv : 1 ≤ vars ∧ vars ≤ 4) (most at_ : Nat) (h1 : most ≤ 1000) (h2 : at_ + 2 * most ≤ 900000) : ∃ t : Tm, Dw l at_ most vars t ∧ t.size + 1 ≤ max 2 (2 * most) ∧ t.chk = 0 := by
 obtain ⟨t, a, b, c, _⟩ := Uo l hl hm vars hv most at_ h1 h2
 exact ⟨t, a, b, c⟩
theorem Ob (l : List Int) (hl : ∀ n ∈ l, inR .i64 n) (hm : l.length ≤ maxLen) (vars : Int) (hv : 1 ≤ vars ∧ vars ≤ 4) (most at_ : Nat) (h1 : most ≤ 1000) (h2 : at_ + 2 * most ≤ 900000) :
  ∃ t : Tm, AN Tryz.prog 14 [FQ l, AO at_, AO most, AO vars] (aTm t) ∧ t.size + 1 ≤ max 2 (2 * most) ∧ t.chk = 0 := by
 obtain ⟨t, ht, hs, hc⟩ := Uv l hl hm vars hv most at_ h1 h2
 refine ⟨t, ?_, hs, hc⟩
 unfold Dw at ht
 refine Nc.ac fun C hC => ?_
 unfold In
 repeat' (first | (with_reducible first | refine W ?_ | refine Z0 ?_ | ((first | refine Wo fun K hK => ?_ | refine Wq ?_ | refine Wr ?_); (try simp only [go_sem, fN, seval, eT, iR]); (repeat refine Ai ?_); (try (refine hK _ ?_; clear hK K)))) | refine Cg _ (ht) ?_)
 simp only [go_sem, fN, seval, AK, AS.result, AB, AD, AI]

set_option maxHeartbeats 1600000
def CK : List (List ByteArray) := [[⟨#[102, 40, 97, 44, 88, 41]⟩, ⟨#[88]⟩, ⟨#[102, 40, 104, 40, 88, 41, 44, 89, 41]⟩, ⟨#[104, 40, 102, 40, 88, 44, 89, 41, 41]⟩],
 [⟨#[102, 40, 88, 44, 97, 41]⟩, ⟨#[88]⟩, ⟨#[102, 40, 88, 44, 104, 40, 89, 41, 41]⟩, ⟨#[104, 40, 102, 40, 88, 44, 89, 41, 41]⟩, ⟨#[102, 40, 97, 44, 88, 41]⟩, ⟨#[88]⟩],
 [⟨#[102, 40, 102, 40, 88, 44, 89, 41, 44, 90, 41]⟩, ⟨#[102, 40, 88, 44, 102, 40, 89, 44, 90, 41, 41]⟩],
 [⟨#[107, 40, 107, 40, 88, 41, 41]⟩, ⟨#[88]⟩, ⟨#[107, 40, 97, 41]⟩, ⟨#[97]⟩, ⟨#[107, 40, 102, 40, 88, 44, 89, 41, 41]⟩, ⟨#[102, 40, 107, 40, 89, 41, 44, 107, 40, 88, 41, 41]⟩],
 [⟨#[102, 40, 88, 44, 88, 41]⟩, ⟨#[88]⟩],
 [⟨#[104, 40, 107, 40, 88, 41, 41]⟩, ⟨#[107, 40, 104, 40, 88, 41, 41]⟩, ⟨#[104, 40, 104, 40, 88, 41, 41]⟩, ⟨#[104, 40, 88, 41]⟩],
 [⟨#[102, 40, 97, 44, 98, 41]⟩, ⟨#[99]⟩, ⟨#[97]⟩, ⟨#[98]⟩],
 [⟨#[103, 40, 88, 44, 89, 41]⟩, ⟨#[102, 40, 89, 44, 88, 41]⟩],
 [⟨#[104, 40, 97, 41]⟩, ⟨#[98]⟩, ⟨#[104, 40, 97, 41]⟩, ⟨#[99]⟩],
 [⟨#[102, 40, 88, 44, 103, 40, 89, 44, 90, 41, 41]⟩, ⟨#[103, 40, 102, 40, 88, 44, 89, 41, 44, 102, 40, 88, 44, 90, 41, 41]⟩]]
noncomputable def Ee : List ByteArray → List Pr
 | a :: b :: l => ((Fj a).1, (Fj b).1) :: Ee l
 | _ => []
noncomputable def Fa (k : Nat) : List Pr := Ee (CK.getD k [])
theorem RE {L : List ByteArray} {i : Nat} {a b : ByteArray} (ha : L[i]? = some a) (hb : L[i + 1]? = some b) : Ee (L.drop i) = ((Fj a).1, (Fj b).1) :: Ee (L.drop (i + 2)) := by
 rw [Bf ha, Bf hb, Ee]
theorem Qr {L : List ByteArray} {i : Nat} (h : L.length ≤ i + 1) : Ee (L.drop i) = [] := by
 have hl : (L.drop i).length ≤ 1 := by rw [List.length_drop]; omega
 match hd : L.drop i, hl with
 | [], _ => rfl
 | [x], _ => rfl
 | x :: y :: l, hl => exact absurd hl (by simp)
theorem LV : ∀ L : List ByteArray, 2 * (Ee L).length ≤ L.length
 | [] => by simp [Ee]
 | [x] => by simp [Ee]
 | a :: b :: l => by
  have := LV l
  simp only [Ee, List.length_cons]
  omega
theorem Pw (k : Nat) (hk : k < 10) : (Fa k).length ≤ 3 := by
 have h1 := LV (CK.getD k [])
 have h2 : ∀ k, k < 10 → (CK.getD k []).length ≤ 6 := by decide
 have h3 := h2 k hk
 unfold Fa
 omega
theorem N4 (m : Int) (hm : inR .i64 m) : ∃ k : Nat, k < 10 ∧ DK m 10 = (k : Int) ∧ Ev Tryz.prog 13 [AO m] 34 4 ((Fa k).map CR) := by
 have r1 := Bp m 10 (by omega)
 have p1 := En m 10 hm (by omega)
 obtain ⟨k, e1⟩ : ∃ k : Nat, DK m 10 = k := ⟨(DK m 10).toNat, by omega⟩
 rw [e1] at p1 r1
 refine ⟨k, by omega, e1, ?_⟩
 have key : ∀ L : List ByteArray, L.length ≤ 6 → ([[.list [[.str ⟨#[102, 40, 97, 44, 88, 41]⟩], [.str ⟨#[88]⟩], [.str ⟨#[102, 40, 104, 40, 88, 41, 44, 89, 41]⟩], [.str ⟨#[104, 40, 102, 40, 88, 44, 89, 41, 41]⟩]]], [.list [[.str ⟨#[102, 40, 88, 44, 97, 41]⟩], [.str ⟨#[88]⟩], [.str ⟨#[102, 40, 88, 44, 104, 40, 89, 41, 41]⟩], [.str ⟨#[104, 40, 102, 40, 88, 44, 89, 41, 41]⟩], [.str ⟨#[102, 40, 97, 44, 88, 41]⟩], [.str ⟨#[88]⟩]]], [.list [[.str ⟨#[102, 40, 102, 40, 88, 44, 89, 41, 44, 90, 41]⟩], [.str ⟨#[102, 40, 88, 44, 102, 40, 89, 44, 90, 41, 41]⟩]]], [.list [[.str ⟨#[107, 40, 107, 40, 88, 41, 41]⟩], [.str ⟨#[88]⟩], [.str ⟨#[107, 40, 97, 41]⟩], [.str ⟨#[97]⟩], [.str ⟨#[107, 40, 102, 40, 88, 44, 89, 41, 41]⟩], [.str ⟨#[102, 40, 107, 40, 89, 41, 44, 107, 40, 88, 41, 41]⟩]]], [.list [[.str ⟨#[102, 40, 88, 44, 88, 41]⟩], [.str ⟨#[88]⟩]]], [.list [[.str ⟨#[104, 40, 107, 40, 88, 41, 41]⟩], [.str ⟨#[107, 40, 104, 40, 88, 41, 41]⟩], [.str ⟨#[104, 40, 104, 40, 88, 41, 41]⟩], [.str ⟨#[104, 40, 88, 41]⟩]]], [.list [[.str ⟨#[102, 40, 97, 44, 98, 41]⟩], [.str ⟨#[99]⟩], [.str ⟨#[97]⟩], [.str ⟨#[98]⟩]]], [.list [[.str ⟨#[103, 40, 88, 44, 89, 41]⟩], [.str ⟨#[102, 40, 89, 44, 88, 41]⟩]]], [.list [[.str ⟨#[104, 40, 97, 41]⟩], [.str ⟨#[98]⟩], [.str ⟨#[104, 40, 97, 41]⟩], [.str ⟨#[99]⟩]]], [.list [[.str ⟨#[102, 40, 88, 44, 103, 40, 89, 44, 90, 41, 41]⟩], [.str ⟨#[103, 40, 102, 40, 88, 44, 89, 41, 44, 102, 40, 88, 44, 90, 41, 41]⟩]]]] : List (List SV))[k]? = some [.list (L.map B7)] → Ev Tryz.prog 13 [AO m] 34 4 ((Ee L).map CR) := fun L hL hrow => by
  unfold Ev
  rw [List.length_map]
  refine KY.acS fun hS C hC => ?_
  unfold Fs
  repeat' (first | (with_reducible first | refine W ?_ | refine Z0 ?_ | ((first | refine Wo fun K hK => ?_ | refine Wp ?_ | refine Wq ?_ | refine Wr ?_); (try simp only [go_sem, fN, seval, eT, iR, hrow, dT, dF, nL]); (repeat refine Ai ?_); (try (refine hK _ ?_; clear hK K)); try refine iC ?_)) | refine Cg _ (p1) ?_)
  refine IWP.ghost (Aa.own 5 500 34 4 (xs := ([] : List Pr).map CR) (by rfl) (by rfl) Qa (by rw [hC]; decide)) ?_
  refine IWP.loopD [7, 9] (fun z s => ∃ i acc, i ≤ L.length + 1 ∧ z = L.length + 1 - i ∧ acc.length ≤ i ∧ Ee L = acc ++ Ee (L.drop i) ∧ s.env 4 = B3 L ∧ s.env 5 = .one (.row 500 acc.length) ∧ s.env 6 = AO i ∧ s.S 7 = none ∧ s.S 9 = none ∧ s.S 500 = some (.arow 34 4 (acc.map CR)) ∧ ∀ j, 1000 ≤ j → s.S j = none) (L.length + 1) ⟨0, [], Nat.zero_le _, rfl, Nat.le_refl _, rfl, rfl, rfl, rfl, rfl, rfl, rfl, ?_⟩ ?_
  ·intro j hj
   show AG _ _ _ _ = _
   rw [AH _ (by omega)]
   rfl
  rintro z ⟨env, S⟩ ⟨i, acc, hi, rfl, hal, htot, e4, e5, e6, s7, s9, s500, sh⟩
  simp only at e4 e5 e6 s7 s9 s500 sh
  have hl : (acc.map CR).length = acc.length := by simp
  by_cases hlt : i + 1 < L.length
  ·have hlt' : ((i : Int) + 1 < L.length) := by omega
   obtain ⟨a, ha⟩ := Af (show i < L.length by omega)
   obtain ⟨b, hb⟩ := Af hlt
   have hi0 : ((i : Int) + 1).toNat = i + 1 := by omega
   have hra := QU a
   have hrb := QU b
   unfold Lp at hra hrb
   repeat' (first | (with_reducible first | refine W ?_ | refine Z0 ?_ | ((first | refine Wo fun K hK => ?_ | refine Wp ?_ | refine Wq ?_ | refine Wr ?_); (try simp only [go_sem, fN, seval, eT, iR, e4, e5, e6, s7, s9, s500, hlt', ha, hb, hi0, CR, hl, dT, dF, nL]); (repeat refine Ai ?_); (try (refine hK _ ?_; clear hK K)); try refine iC ?_)) | refine Cg _ (hra) ?_ | refine Cg _ (hrb) ?_)
   refine AF ⟨L.length + 1 - (i + 2), by omega, i + 2, acc ++ [((Fj a).1, (Fj b).1)], by omega, rfl, by simp; omega, ?_, ?_⟩
   ·rw [htot, RE ha hb, List.append_assoc]
    rfl
   ·simp only [go_sem, fN, seval, AS.drop, Ac, AC.clears, AC.clear, AC.highs, AC.high, Bool.not_false, Bool.true_and, Bool.and_self, AV.purge, AV.purges, AC.purge, AL.purge, List.contains_cons, List.contains_nil, Nat.reduceBEq, Bool.or_self, Bool.or_false, Bool.false_or, Bool.or_true, eT, iR, e4, e5, e6, s7, s9, s500]
    refine ⟨by congr 3, ?_, fun j hj => ?_⟩
    ·rw [List.map_append]
     rfl
    ·have n7 : (j = 7) = False := eq_false (by omega)
     have n9 : (j = 9) = False := eq_false (by omega)
     have n500 : (j = 500) = False := eq_false (by omega)
     simp [n7, n9, n500, sh j hj]
  ·have hlt' : ¬ ((i : Int) + 1 < L.length) := by omega
   rw [Qr (by omega), List.append_nil] at htot
   rw [htot]
   repeat' with_reducible first | refine W ?_ | refine Z0 ?_ | ((first | refine Wo fun K hK => ?_ | refine Wp ?_ | refine Wq ?_ | refine Wr ?_); (try simp only [go_sem, fN, seval, eT, iR, e4, e5, e6, s500, hlt', hl, dT, dF, nL]); (repeat refine Ai ?_); (try (refine hK _ ?_; clear hK K)); try refine iC ?_)
   exact Uz (mu := false) trivial 500 (by decide) s500 sh (by simp [AB, AD, AI, AG])
 match k, (show k < 10 by omega) with
 | 0, _ => exact key (CK.getD 0 []) (by decide) rfl
 | 1, _ => exact key (CK.getD 1 []) (by decide) rfl
 | 2, _ => exact key (CK.getD 2 []) (by decide) rfl
 | 3, _ => exact key (CK.getD 3 []) (by decide) rfl
 | 4, _ => exact key (CK.getD 4 []) (by decide) rfl
 | 5, _ => exact key (CK.getD 5 []) (by decide) rfl
 | 6, _ => exact key (CK.getD 6 []) (by decide) rfl
 | 7, _ => exact key (CK.getD 7 []) (by decide) rfl
 | 8, _ => exact key (CK.getD 8 []) (by decide) rfl
 | 9, _ => exact key (CK.getD 9 []) (by decide) rfl

def CN : IR :=
 (.seq (.ops [.i 8 (.mov (.c (.one (.st (.bool false)))))]) (.seq (.seq (.ops [.m 11 0, .i 12 (.len false (.t 11)), .i 13 (.bin .gtr (.t 12) (.n 256))]) (.cond (.t 13) (.seq (.ops [.i 8 (.mov (.c (.one (.st (.bool true)))))]) .ret) .skip)) (.seq (.ops [.m 14 1, .i 15 (.callN 13 [.t 14]), .m 9 15]) (.seq (.ops [.m 16 0, .m 17 2, .i 18 (.call 15 [.t 17, .n 14]), .i 19 (.bin .add (.n 2) (.t 18)), .i 20 (.call 14 [.t 16, .n 0, .t 19, .n 2]), .i 10 (.alloc 25 [.st (.str (ByteArray.mk (#[]))), .full []]), .s 2 10 20]) (.seq (.ops [.m 21 9, .L 22 2 10, .i 23 (.call 16 [.t 21, .t 22]), .m 24 23, .mk (some 25) (some (24, true)) (.mov (.t 9)) .no, .mk (some 26) (some (24, true)) (.load true 2 (.t 10)) .no, .mk (some 27) (some (24, true)) (.mov (.t 0)) .no, .mk (some 28) (some (24, true)) (.call 14 [.t 27, .n 50, .n 9, .n 1]) .no, .mk (some 29) (some (24, true)) (.mov (.t 3)) .no, .mk (some 30) (some (24, true)) (.call 15 [.t 29, .n 30]) .no, .mk (some 31) (some (24, true)) (.call 17 [.t 25, .t 26, .t 28, .t 30]) .no, .i 32 (.pick (.t 24) (.t 31) (.c (.one (.st (.bool false))))), .m 33 32, .mk (some 34) (some (33, true)) (.load true 2 (.t 10)) .no, .mk (some 35) (some (33, true)) (.call 9 [.t 34, .n 10]) .no, .mk (some 36) (some (33, true)) (.bin .gtr (.t 35) (.n 10)) .no, .mk (some 37) (some (33, true)) (.mov (.t 36)) .no, .mk (some 38) (some (37, false)) (.mov (.t 9)) .no, .mk (some 39) (some (37, false)) (.load true 2 (.t 10)) .no, .mk (some 40) (some (37, false)) (.call 3 [.t 38, .t 39]) .no, .mk (some 41) (some (33, true)) (.pick (.t 37) (.c (.one (.st (.bool true)))) (.t 40)) .no, .i 42 (.pick (.t 33) (.t 41) (.c (.one (.st (.bool false))))), .m 8 42]) .ret)))))
theorem C7 : OkF Tryz.prog 4 43 [20000015] CN [.t 8] := .of Tryz.func4 rfl rfl (by kernel_rfl) rfl

theorem K1 (l : List Int) (m1 m2 m3 : Int) (hl : ∀ n ∈ l, inR .i64 n) (hm : l.length ≤ maxLen) (h1 : inR .i64 m1) (h2 : inR .i64 m2) (h3 : inR .i64 m3) : AN Tryz.prog 4 [FQ l, AO m1, AO m2, AO m3] (Ad true) := by
 by_cases h0 : (256 : Int) < l.length
 ·refine C7.ac fun C hC => ?_
  unfold CN
  repeat' with_reducible first | refine W ?_ | refine Z0 ?_ | ((first | refine Wo fun K hK => ?_ | refine Wp ?_ | refine Wq ?_ | refine Wr ?_); (try simp only [go_sem, fN, seval, eT, iR, h0, dT, dF, nL]); (repeat refine Ai ?_); (try (refine hK _ ?_; clear hK K)); try refine iC ?_)
  simp only [go_sem, fN, seval, AK, AS.result, AB, AD, AI]
 have r2 := Bp m2 14 (by omega)
 have p2 := En m2 14 h2 (by omega)
 have p3 := En m3 30 h3 (by omega)
 obtain ⟨k2, e2⟩ : ∃ k : Nat, DK m2 14 = k := ⟨(DK m2 14).toNat, by omega⟩
 rw [e2] at p2 r2
 obtain ⟨k1, q1, -, c1⟩ := N4 m1 h1
 obtain ⟨t, ht, zt, ct⟩ := Ob l hl hm 2 (by omega) (2 + k2) 0 (by omega) (by omega)
 obtain ⟨u, hu, zu, cu⟩ := Ob l hl hm 1 (by omega) 9 50 (by omega) (by omega)
 rw [show (((2 + k2 : Nat) : Int)) = 2 + (k2 : Int) by omega] at ht
 have z1 : (Fa k1).length ≤ 3 := Pw k1 q1
 have s1 := Kf (Fa k1) t
 have s2 := Kq (Fa k1) t u (DK m3 30)
 have s3 := KJ (Fa k1) t
 have s4 := DF t 10 (by omega) (by omega)
 generalize Fa k1 = R at *
 have lR : (R.map CR).length = R.length := List.length_map _
 by_cases g : 10 < Az t.size 10
 ·refine C7.ac fun C hC => ?_
  unfold CN
  repeat' (first | (with_reducible first | refine W ?_ | refine Z0 ?_ | ((first | refine Wo fun K hK => ?_ | refine Wp ?_ | refine Wq ?_ | refine Wr ?_); (try simp only [go_sem, fN, seval, eT, iR, h0, lR, g, dT, dF, nL]); (repeat refine Ai ?_); (try (refine hK _ ?_; clear hK K)); try refine iC ?_)) | (first | refine ⟨_, _, _, _, c1, by simp [AG, noS], ?_⟩) | refine Cg _ (p2) ?_ | refine Cg _ (ht) ?_ | refine Cg _ (s1) ?_ | refine Cg _ (hu) ?_ | refine Cg _ (p3) ?_ | refine Cg _ (s2) ?_ | refine Cg _ (s4) ?_ | refine Cg _ (s3) ?_)
  simp only [go_sem, fN, seval, AK, AS.result, AB, AD, AI]
 ·refine C7.ac fun C hC => ?_
  unfold CN
  repeat' (first | (with_reducible first | refine W ?_ | refine Z0 ?_ | ((first | refine Wo fun K hK => ?_ | refine Wp ?_ | refine Wq ?_ | refine Wr ?_); (try simp only [go_sem, fN, seval, eT, iR, h0, lR, g, dT, dF, nL]); (repeat refine Ai ?_); (try (refine hK _ ?_; clear hK K)); try refine iC ?_)) | (first | refine ⟨_, _, _, _, c1, by simp [AG, noS], ?_⟩) | refine Cg _ (p2) ?_ | refine Cg _ (ht) ?_ | refine Cg _ (s1) ?_ | refine Cg _ (hu) ?_ | refine Cg _ (p3) ?_ | refine Cg _ (s2) ?_ | refine Cg _ (s4) ?_ | refine Cg _ (s3) ?_)
  simp only [go_sem, fN, seval, AK, AS.result, AB, AD, AI]

open Go.ChangeShapes Go.WideShapes Go.ChangeAt
section
variable {H : Type} {enc : TypeId × Value → H} {P : Program}
theorem GI (hl : laidOutB P = true) : ∀ {ts : List TypeId} {vs : List Value} {ds : List (DataW H)} {ps : List MemPlace} {W W' : World} {sp : Nat → Bool},
  (∀ t ∈ ts, P.readableRec t = true ∧ t < P.types.size) → DataW.TrodAll enc P W 0 (fun _ => true) true ts vs ds ps → (∀ p ∈ ps, W.sameAt W' p) → (∀ p ∈ ps, sp p.block = true) → DataW.TrodAll enc P W' 0 sp true ts vs ds ps
 | [], [], [], _, _, _, _, _, h, _, _ => h
 | _ :: _, _ :: _, _ :: _, _, _, _, _, hT, ⟨p, q, h1, h2, e⟩, hsame, hs => ⟨p, q, WideElems.Trod_stays hl (hT _ (List.mem_cons.2 (Or.inl rfl))).1 (hT _ (List.mem_cons.2 (Or.inl rfl))).2 h1 (fun x hx => hsame x (by rw [e]; exact List.mem_append_left _ hx)) (fun x hx => hs x (by rw [e]; exact List.mem_append_left _ hx)),
   GI hl (fun t ht => hT t (List.mem_cons.2 (Or.inr ht))) h2 (fun x hx => hsame x (by rw [e]; exact List.mem_append_right _ hx)) (fun x hx => hs x (by rw [e]; exact List.mem_append_right _ hx)), e⟩
 | [], _ :: _, _, _, _, _, _, _, h, _, _ => h.elim
 | [], [], _ :: _, _, _, _, _, _, h, _, _ => h.elim
 | _ :: _, [], _, _, _, _, _, _, h, _, _ => h.elim
 | _ :: _, _ :: _, [], _, _, _, _, _, h, _, _ => h.elim
theorem S_ {f : Func} {s : ChangeSpec} {apart fresh handsOn : Bool} {W W' : World} {args : Array Value} {ds : List (DataW H)} {before : List MemPlace} {tb : TypeId}
  (hW : DataW.Whole enc P f.params.toList s.vars apart W args.toList ds [] before) (hv : s.vars = []) (hr : f.resultTypes = #[tb]) (htb : P.underlying tb = some .bool)
  (hres : (s.fn H (ds ++ [])).results = [.lit (.bool true)]) (hargs : (s.fn H (ds ++ [])).args = ds) (hvs : (s.fn H (ds ++ [])).vars = [])
  (hl : laidOutB P = true) (hT : (f.params.toList.all fun t => P.readableRec t && decide (t < P.types.size)) = true) (hb : Below W.heap.size W W') :
  s.post enc P f apart fresh handsOn false W args (.bool true) W' := by
 have hlt : ∀ p ∈ before, p.block < W.heap.size := fun p hp => hW.lt p hp
 have hT' : ∀ t ∈ f.params.toList, P.readableRec t = true ∧ t < P.types.size := fun t ht => by
  have := List.all_eq_true.1 hT t ht
  simpa using this
 obtain ⟨p, q, hA, hV, rfl, hz, hn⟩ := hW
 rw [hv] at hV
 obtain ⟨_, rfl⟩ := trodVars_none hV
 have hargs' : ∀ sp : Nat → Bool, (∀ x ∈ p, sp x.block = true) → DataW.TrodAll enc P W' 0 sp true f.params.toList args.toList ds p := fun sp hsp =>
  GI hl hT' hA (fun x hx => hb.same (hlt x (by simpa using hx))) hsp
 have hres' : ∀ (b : Nat) (sp : Nat → Bool) (hd : Bool), DataW.TrodAll enc P W' b sp hd f.resultTypes.toList ((Value.bool true).resultList f.resultTypes.size) (s.fn H (ds ++ [])).results [] := fun b sp hd => by
  rw [hres, hr]
  exact trodAll_cons_mk (shut_bool htb true) trodAll_mk0
 refine ⟨ds, [], p ++ [], [], p, [], ⟨p, [], hA, by rw [hv]; exact rfl, rfl, hz, hn⟩, hres' _ _ _, by rw [hargs]; exact hargs' _ (fun x hx => by simpa using hlt x (by simpa using hx)), by rw [hv, hvs]; exact rfl,
  World.keptBut_mono (fun x hx => ⟨hx, Or.inr (by simpa using hx)⟩) (hb.frame (· ∈ p ++ [])), fun h => by cases h⟩
variable {W : World} {sp : Nat → Bool} {hd : Bool} {base : Nat}
def sto (W : World) : Sto := Cz W
theorem Tb (W : World) : Fit (sto W) W := fun _ _ h => h
theorem Ld {W : World} {a : Addr} {v : Value} (h : W.cell? a = some v) : a.spot = none := by
 cases hs : a.spot with
 | none => rfl
 | some n =>
  unfold World.cell? at h
  split at h
  ·simp [hs] at h
  ·cases h
theorem Nq {α : Type} {p : Nat → α → Prop} {n : Nat} (h : ∀ i, i < n → ∃ b, p i b) : ∃ xs : List α, xs.length = n ∧ ∀ i (h : i < xs.length), p i xs[i] := by
 induction n with
 | zero => exact ⟨[], rfl, fun i h => absurd h (by simp)⟩
 | succ m ih =>
  obtain ⟨xs, h1, h2⟩ := ih (fun i hi => h i (by omega))
  obtain ⟨b, h3⟩ := h m (by omega)
  refine ⟨xs ++ [b], by simp [h1], fun i hi => ?_⟩
  by_cases him : i < xs.length
  ·rw [List.getElem_append_left him]
   exact h2 i him
  ·have : i = xs.length := by simp at hi; omega
   subst this
   rw [show (xs ++ [b])[xs.length]'hi = b by simp, h1]
   exact h3
theorem M4 {α : Type} {e0 : α → List SV} {t e : TypeId} {k : Nat} {fuel : Nat} {cs : List Value} {x : DataW H × List MemPlace} (ht : P.underlying t = some (.slice e)) (hc : P.cellsOf e = k) (hlen : ∀ a, (e0 a).length = k) (hk : 0 < k)
  (f : ∀ (n : Nat) (cs : List Value) (y : DataW H × List MemPlace), n < fuel → DataW.trod enc P W base sp hd n e cs = some y → ∃ a : α, Ag (Ay (sto W)) cs (e0 a))
  (h : DataW.trod enc P W base sp hd fuel t cs = some x) (hs : B_ = true → k < 2 := by decide) : ∃ xs : List α, Ag (Ay (sto W)) cs [.list (xs.map e0)] := by
 rcases DataW.trod_slice ht h with ⟨rfl, _⟩ | ⟨a, len, cap, DJ, rest, n, hfu, rfl, _, hb, hl, hm, hlen', hel, _, _⟩
 ·exact ⟨[], .cons OE .nil⟩
 ·have key : ∀ i, i < len → ∃ (b : α), ∃ (cs' : List Value), cs'.length = k ∧ (∀ j u, cs'[j]? = some u → W.cell? ((a.add (i * k)).add j) = some u) ∧ Ag (Ay (sto W)) cs' (e0 b) := fun i hi => by
   have h1 := hel i hi
   rw [List.getElem?_eq_getElem (by omega)] at h1
   obtain ⟨cs', h2, h3⟩ := Option.bind_eq_some_iff.1 h1
   obtain ⟨_, h4, h5⟩ := World.cells?_some h2
   obtain ⟨b, hb⟩ := f n cs' _ (by omega) h3
   rw [hc] at h4 h5
   refine ⟨b, cs', h4, fun j u hj => ?_, hb⟩
   rw [h5 j (by have := (List.getElem?_eq_some_iff.1 hj).1; omega)]
   exact hj
  obtain ⟨xs, hxl, hxs⟩ : ∃ xs : List α, xs.length = len ∧ ∀ i (h : i < xs.length), ∃ cs' : List Value, cs'.length = k ∧ (∀ j u, cs'[j]? = some u → W.cell? ((a.add (i * k)).add j) = some u) ∧ Ag (Ay (sto W)) cs' (e0 xs[i]) := Nq key
  have cell : ∀ m y j z, (xs.map e0)[m]? = some y → y[j]? = some z → ∃ v, W.cell? ⟨a.block, a.off + m * k + j, none⟩ = some v ∧ Ay (sto W) v z := fun m y j z hy hz => by
   rw [List.getElem?_map, Option.map_eq_some_iff] at hy
   obtain ⟨b, hb', rfl⟩ := hy
   obtain ⟨hm', hbe⟩ := List.getElem?_eq_some_iff.1 hb'
   obtain ⟨cs', c1, c2, c3⟩ := hxs m hm'
   rw [hbe] at c3
   obtain ⟨v, v1, v2⟩ := c3.get hz
   refine ⟨v, ?_, v2⟩
   have := c2 j v v1
   have hsp := Ld this
   rw [← this]
   congr 1
   have h7 : ((a.add (m * k)).add j).block = a.block ∧ ((a.add (m * k)).add j).off = a.off + m * k + j := by
    unfold Addr.add
    split <;> split <;> simp_all
   generalize (a.add (m * k)).add j = q at *
   cases q
   simp_all
  refine ⟨xs, .cons (.list (b := a.block) (o := a.off) (w := k) (fun m j => (W.cell? ⟨a.block, a.off + m * k + j, none⟩).getD undef) (by simp [hxl]) hl hm (by simp) (fun h0 => ?_) (fun y hy => ?_) (fun q1 q2 _ => absurd (hs q1) (by omega)) (fun m y j z hy hz => ?_) (fun m y j z hy hz => ?_)) .nil⟩
  ·obtain ⟨cs', h1, h2, h3⟩ := hxs 0 (by omega)
   have h4 : W.cell? a = some (cs'[0]'(by omega)) := by
    have := h2 0 _ (List.getElem?_eq_getElem (by omega))
    simpa [Addr.add] using this
   have := Ld h4
   cases a
   simp_all
  ·obtain ⟨b, _, rfl⟩ := List.mem_map.1 hy
   exact hlen b
  ·obtain ⟨v, v1, v2⟩ := cell m y j z hy hz
   show W.cell? _ = _
   rw [v1]; rfl
  ·obtain ⟨v, v1, v2⟩ := cell m y j z hy hz
   rw [v1]; exact v2
theorem OT {t : TypeId} (ht : P.underlying t = some (.int .i64)) (fuel : Nat) (cs : List Value) (x : DataW H × List MemPlace) (h : DataW.trod enc P W base sp hd fuel t cs = some x) : ∃ n : Int, Ag (Ay (sto W)) cs (Kx n) := by
 obtain ⟨n, rfl, _, hn⟩ := DataW.trod_int ht h
 exact ⟨n, .cons (.int (by rw [EH]; simpa [Lit.wf, IntKind.min, IntKind.max, IntKind.signed, IntKind.bits] using hn)) .nil⟩
theorem Mx {t : TypeId} (ht : P.underlying t = some (.int .i64)) {r : Reach} {b0 : Nat} {v : Value} {d : DataW H} {p : List MemPlace} (hv : Value.okWide P W r b0 t v) (h : DataW.Trod enc P W base sp hd t v d p) : ∃ n : Int, AR (sto W) noS noH v (AO n) := by
 obtain ⟨n, rfl⟩ := okWide_int ht hv
 obtain ⟨fuel, hf⟩ := h
 obtain ⟨m, hm⟩ := OT ht fuel _ _ hf
 have : Ag (Ay (sto W)) [.int .i64 n] (Kx m) := hm
 cases this with
 | cons h1 h2 => exact ⟨m, .one (.st h1)⟩
theorem TD {α : Type} {e0 : α → List SV} {t e : TypeId} {k : Nat} (ht : P.underlying t = some (.slice e)) (hc : P.cellsOf e = k) (hlen : ∀ a, (e0 a).length = k) (hk : 0 < k) {r : Reach} {b0 : Nat} {v : Value} {d : DataW H} {p : List MemPlace} (hv : Value.okWide P W r b0 t v)
  (f : ∀ (n : Nat) (cs : List Value) (y : DataW H × List MemPlace), DataW.trod enc P W base sp hd n e cs = some y → ∃ a : α, Ag (Ay (sto W)) cs (e0 a)) (h : DataW.Trod enc P W base sp hd t v d p) (hs : B_ = true → k < 2 := by decide) : ∃ xs : List α, AR (sto W) noS noH v (.one (.st (.list (xs.map e0)))) := by
 obtain ⟨a, len, cap, rfl⟩ := okWide_slice ht hv
 obtain ⟨fuel, hf⟩ := h
 obtain ⟨xs, hxs⟩ := M4 ht hc hlen hk (fun n cs y _ hy => f n cs y hy) hf hs
 have : Ag (Ay (sto W)) [.slice a len cap] [.list (xs.map e0)] := hxs
 cases this with
 | cons h1 h2 => exact ⟨xs, .one (.st h1)⟩
end
theorem O9 {σ : Sto} (h : Nk = [] := by rfl) : CW σ := fun x hx => by simp [h] at hx
theorem NV {P : Program} {f : FuncId} {xs : List AV} {b : Bool} (h : AN P f xs (Ad b)) {σ : Sto} {w : World} {vs : List Value} (hg : CW σ) (hf : Fit σ w) (hv : Ag (AR σ noS noH) vs xs) :
  Calls P f vs.toArray w fun e w' => e = .returned (.bool b) ∧ Below w.heap.size w w' := (h σ w vs hg hf hv).mono fun e w' ⟨v, σ', he, hv, _, _, hb⟩ => by
 rw [C4 hv] at he
 exact ⟨he, hb⟩

section
variable {H : Type} {enc : TypeId × Value → H} {W : World} {sp : Nat → Bool} {hd : Bool} {base : Nat}
set_option maxRecDepth 100000 in
theorem TN {r : Reach} {b0 : Nat} {v : Value} {d : DataW H} {p : List MemPlace} (hv : Value.okWide Tryz.prog W r b0 39 v) (h : DataW.Trod enc Tryz.prog W base sp hd 39 v d p) : ∃ l : List Int, AR (sto W) noS noH v (FQ l) :=
 TD (k := 1) Tryz.underlying39 (by kernel_rfl) (fun _ => rfl) (by decide) hv (OT Tryz.underlying3) h
end

end Go.Proofs.YtgcddcaachpbnaaGreat
namespace Go.Proofs.YtgcddcaachpbnaaGreat.rewriteMade
open Go Go.RowKit Go.ChangeShapes Go.WideShapes Go.ChangeAt
set_option linter.unusedVariables false
theorem own : ownKnob Tryz.prog.godebug = none := by kernel_rfl
theorem U6 : laidOutB Tryz.prog = true := by kernel_rfl
set_option maxRecDepth 100000 in
theorem Sf (H : Type) (enc : TypeId × Value → H) (W : World) (base : Nat) (args : Array Value) (ds gs : List (DataW H)) (before : List MemPlace)
  (hval : ∀ (j : Nat) t v, Tryz.f4.params[j]? = some t → args[j]? = some v → Value.okWide Tryz.prog W .any base t v)
  (hW : DataW.Whole enc Tryz.prog Tryz.f4.params.toList Rows.rewriteMadeSpec.vars false W args.toList ds gs before) :
  Calls Tryz.prog 4 args W fun e W' => ∃ v, e = .returned v ∧ Rows.rewriteMadeSpec.post enc Tryz.prog Tryz.f4 false true false false W args v W' := by
 obtain ⟨p, q, hA0, hV, rfl, hfz, hnd⟩ := id hW
 obtain ⟨rfl, rfl⟩ := trodVars_none hV
 have hA : DataW.TrodAll enc Tryz.prog W 0 (fun _ => true) true Tryz.f4.params.toList args.toList ds p := hA0
 rw [Tryz.params4] at hA hval
 obtain ⟨v0, v1, v2, v3, d0, d1, d2, d3, p0, p1, p2, p3, hargs, rfl, rfl, h0, h1, h2, h3⟩ := trodAll_four hA
 obtain rfl : args = #[v0, v1, v2, v3] := by cases args; simp_all
 obtain ⟨l, r0⟩ := TN (hval 0 39 v0 rfl rfl) h0
 obtain ⟨m1, r1⟩ := Mx Tryz.underlying3 (hval 1 3 v1 rfl rfl) h1
 obtain ⟨m2, r2⟩ := Mx Tryz.underlying3 (hval 2 3 v2 rfl rfl) h2
 obtain ⟨m3, r3⟩ := Mx Tryz.underlying3 (hval 3 3 v3 rfl rfl) h3
 have k0 := PL r0.known
 refine (NV (K1 l m1 m2 m3 k0.2 k0.1 r1.known r2.known r3.known) O9 (Tb W) (vs := [v0, v1, v2, v3]) (.cons r0 (.cons r1 (.cons r2 (.cons r3 .nil))))).mono fun e W' ⟨he, hb⟩ => ⟨_, he, ?_⟩
 exact S_ hW rfl rfl Tryz.underlying4 rfl rfl rfl U6 (by kernel_rfl) hb
set_option maxRecDepth 100000 in
theorem Ur (os : Os) (started : os.Started) (H : Type) (enc : TypeId × Value → H) :
  ReturnsInHanded {} Tryz.checked os 4 .any (Rows.rewriteMadeSpec.pre6 enc Tryz.prog Tryz.f4 Rows.rewriteMadeRow.domain false) (Rows.rewriteMadeSpec.post enc Tryz.prog Tryz.f4 false true false false) := by
 refine returnsInHanded_of_change (C := Tryz.checked) own started (by kernel_rfl) Tryz.func4
  (ChangeSpec.witness6 (enc := enc) (C := Tryz.checked) false ⟨#[], #[.slice none 0 0, .int .i64 0, .int .i64 0, .int .i64 0], []⟩ 8 (by kernel_rfl) (by kernel_rfl) (by kernel_rfl) (by kernel_rfl)) ?_
 intro W base args ds gs before hval hW _ _
 exact Sf H enc W base args ds gs before hval hW
theorem proved : Rows.RewriteMadeSaid :=
 OpenClaim.holds_of_wide 4 Tryz.f4 rfl rfl rfl rfl rfl rfl rfl ⟨rfl, rfl, rfl, rfl, rfl⟩ rfl rfl rfl rfl rfl (by kernel_rfl) Tryz.func4 (by kernel_rfl)
  (of_decide_eq_true (by kernel_rfl)) (by unfold Func.isWrapper; first | (rw [if_pos (by decide +kernel)]; kernel_rfl) | (rw [if_neg (by decide +kernel)]; exact ⟨rfl, rfl⟩))
  (fun os started H enc _ => Ur os started H enc)

end Go.Proofs.YtgcddcaachpbnaaGreat.rewriteMade
