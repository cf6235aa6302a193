/-
  Proved: for known rules, and rules made of raw numbers, CriticalSays holds: the law CriticalMade returns true; as a tied card. Conditions: none.
-/
import Derived.Test.YtgepacmabaaohaaGreatDoorCrM11
import Derived.Test.YtgepacmabaaohaaGreatDoorRows
import Derived.ProofKit
import Derived.OpenShut
import Derived.JoinedCond
import Derived.Deep.Slices
import Derived.Test.YtgepacmabaaohaaGreatDoorTie
import Derived.Test.YtgepacmabaaohaaGreatDoorCards
import Derived.LaidMore
import Derived.MakeChecks
import Derived.Stop.Joined
import Derived.Lib.LaidTab
import Derived.Lib.ItoaNum
import Derived.LaidLaws
namespace Go.Proofs.YtgepacmabaaohaaGreatDoor
open Go
set_option linter.unusedVariables false
def L1 (s : ByteArray) (i : Nat) : ByteArray := s.extract i s.size
theorem SC (s : ByteArray) (i : Nat) : (L1 s i).size = s.size - i := by
 unfold L1
 rw [ByteArray.size_extract]
 omega
theorem tail_drop {s : ByteArray} {i n : Nat} (h : i + n ≤ s.size) : (L1 s i).extract n (L1 s i).size = L1 s (i + n) := by
 rw [SC]
 unfold L1
 rw [ByteArray.extract_extract]
 congr 1
 omega
def QT (s : ByteArray) : Nat → Nat → Nat
 | 0, i => i
 | k + 1, i => if A_ (Ah s i) = true then QT s k (i + 1) else i
def Ae (s : ByteArray) (i : Nat) : Nat := QT s (s.size - i) i
theorem Tr {s : ByteArray} {i : Nat} (h : i < s.size) (hl : A_ (Ah s i) = true) : Ae s i = Ae s (i + 1) := by
 unfold Ae
 obtain ⟨k, hk⟩ : ∃ k, s.size - i = k + 1 := ⟨s.size - i - 1, by omega⟩
 rw [hk, show s.size - (i + 1) = k by omega, QT, if_pos hl]
theorem PR {s : ByteArray} {i : Nat} (h : i < s.size) (hl : ¬ A_ (Ah s i) = true) : Ae s i = i := by
 unfold Ae
 obtain ⟨k, hk⟩ : ∃ k, s.size - i = k + 1 := ⟨s.size - i - 1, by omega⟩
 rw [hk, QT, if_neg hl]
theorem Rj {s : ByteArray} {i : Nat} (h : s.size ≤ i) : Ae s i = i := by
 unfold Ae
 rw [show s.size - i = 0 by omega]
 rfl
theorem Qo (s : ByteArray) : ∀ k i : Nat, i ≤ QT s k i ∧ QT s k i ≤ i + k
 | 0, i => ⟨Nat.le_refl _, Nat.le_refl _⟩
 | k + 1, i => by
  rw [QT]
  split
  ·have := Qo s k (i + 1)
   omega
  ·omega
theorem Ny {s : ByteArray} {i : Nat} (h : i ≤ s.size) : i ≤ Ae s i ∧ Ae s i ≤ s.size := by
 have := Qo s (s.size - i) i
 unfold Ae
 omega
structure Rd where
 t : Tm
 i : Nat
 k : Nat
 e : Int
mutual
def rd (s : ByteArray) : Nat → Nat → Nat → Rd
 | 0, i, k => ⟨.mk ⟨#[]⟩ [], i, k, 99⟩
 | f + 1, i, k =>
  if Ae s i = i then ⟨.mk ⟨#[]⟩ [], i, k, if i = s.size then 13 else 12⟩
  else if Ax (s.extract i (Ae s i)) = true then
   if 200 < k + 1 then ⟨.mk (s.extract i (Ae s i)) [], Ae s i, k + 1, 3⟩
   else if Ae s i = s.size ∨ Ah s (Ae s i) ≠ 40 then ⟨.mk (s.extract i (Ae s i)) [], Ae s i, k + 1, 0⟩
   else if AL (s.extract i (Ae s i)) = true then ⟨.mk (s.extract i (Ae s i)) [], Ae s i, k + 1, 2⟩
   else rdA s f (s.extract i (Ae s i)) [] (Ae s i) (k + 1)
  else ⟨.mk (s.extract i (Ae s i)) [], Ae s i, k, 1⟩
def rdA (s : ByteArray) : Nat → ByteArray → List Tm → Nat → Nat → Rd
 | 0, n, acc, i, k => ⟨.mk ⟨#[]⟩ [], i, k, 99⟩
 | f + 1, n, acc, i, k =>
  if (rd s f (i + 1) k).e = 0 then
   if (rd s f (i + 1) k).i = s.size then ⟨.mk n (acc ++ [(rd s f (i + 1) k).t]), (rd s f (i + 1) k).i, (rd s f (i + 1) k).k, 13⟩
   else if Ah s (rd s f (i + 1) k).i = 41 then ⟨.mk n (acc ++ [(rd s f (i + 1) k).t]), (rd s f (i + 1) k).i + 1, (rd s f (i + 1) k).k, 0⟩
   else if Ah s (rd s f (i + 1) k).i = 44 then rdA s f n (acc ++ [(rd s f (i + 1) k).t]) (rd s f (i + 1) k).i (rd s f (i + 1) k).k
   else ⟨.mk n (acc ++ [(rd s f (i + 1) k).t]), (rd s f (i + 1) k).i, (rd s f (i + 1) k).k, 12⟩
  else ⟨.mk n acc, (rd s f (i + 1) k).i, (rd s f (i + 1) k).k, (rd s f (i + 1) k).e⟩
end
structure W3 (s : ByteArray) (i k : Nat) (r : Rd) : Prop where
 le : i ≤ r.i
 in_ : r.i ≤ s.size
 knots : k ≤ r.k
 most : r.k ≤ 201
 ok : r.e = 0 → i < r.i ∧ r.k ≤ 200 ∧ k < r.k ∧ r.t.size ≤ r.k - k
 err : 0 ≤ r.e ∧ r.e ≤ 13
structure Wx (s : ByteArray) (acc : List Tm) (i k : Nat) (r : Rd) : Prop where
 le : i ≤ r.i
 in_ : r.i ≤ s.size
 knots : k ≤ r.k
 most : r.k ≤ 201
 ok : r.e = 0 → i < r.i ∧ r.k ≤ 200 ∧ k < r.k ∧ r.t.size ≤ (r.k - k) + (1 + Tm.sizes acc)
 err : 0 ≤ r.e ∧ r.e ≤ 13
theorem Ka (xs : List Tm) (a : Tm) : Tm.sizes (xs ++ [a]) = Tm.sizes xs + a.size := by
 rw [Tm.sizes_append]
 simp [Tm.sizes]
mutual
theorem V5 (s : ByteArray) : ∀ f i k : Nat, i ≤ s.size → k ≤ 200 → 2 * (s.size - i) < f → W3 s i k (rd s f i k)
 | 0, i, k, _, _, h => absurd h (Nat.not_lt_zero _)
 | f + 1, i, k, hi, hk, hf => by
  obtain ⟨l1, l2⟩ := Ny hi
  rw [rd]
  by_cases h0 : Ae s i = i
  ·rw [if_pos h0]
   by_cases h1 : i = s.size
   ·rw [if_pos h1]
    exact ⟨Nat.le_refl _, hi, Nat.le_refl _, by show k ≤ 201; omega, fun h => absurd h (by show ¬ (13 : Int) = 0; decide), by show (0 : Int) ≤ 13 ∧ (13 : Int) ≤ 13; decide⟩
   ·rw [if_neg h1]
    exact ⟨Nat.le_refl _, hi, Nat.le_refl _, by show k ≤ 201; omega, fun h => absurd h (by show ¬ (12 : Int) = 0; decide), by show (0 : Int) ≤ 12 ∧ (12 : Int) ≤ 13; decide⟩
  ·rw [if_neg h0]
   by_cases h1 : Ax (s.extract i (Ae s i)) = true
   ·rw [if_pos h1]
    by_cases h2 : 200 < k + 1
    ·rw [if_pos h2]
     exact ⟨l1, l2, Nat.le_succ _, by show k + 1 ≤ 201; omega, fun h => absurd h (by show ¬ (3 : Int) = 0; decide), by show (0 : Int) ≤ 3 ∧ (3 : Int) ≤ 13; decide⟩
    ·rw [if_neg h2]
     by_cases h3 : Ae s i = s.size ∨ Ah s (Ae s i) ≠ 40
     ·rw [if_pos h3]
      exact ⟨l1, l2, Nat.le_succ _, by show k + 1 ≤ 201; omega, fun _ => ⟨by show i < Ae s i; omega, by show k + 1 ≤ 200; omega, Nat.lt_succ_self _, by show (Tm.mk _ []).size ≤ k + 1 - k; simp [Tm.size, Tm.sizes]⟩, by show (0 : Int) ≤ 0 ∧ (0 : Int) ≤ 13; decide⟩
     ·rw [if_neg h3]
      by_cases h4 : AL (s.extract i (Ae s i)) = true
      ·rw [if_pos h4]
       exact ⟨l1, l2, Nat.le_succ _, by show k + 1 ≤ 201; omega, fun h => absurd h (by show ¬ (2 : Int) = 0; decide), by show (0 : Int) ≤ 2 ∧ (2 : Int) ≤ 13; decide⟩
      ·rw [if_neg h4]
       have hlt : Ae s i < s.size := by
        have : Ae s i ≠ s.size := fun h => h3 (.inl h)
        omega
       have := T0 s f (s.extract i (Ae s i)) [] (Ae s i) (k + 1) hlt (by omega) (by omega)
       refine ⟨Nat.le_trans l1 this.le, this.in_, by have := this.knots; omega, this.most, fun h => ?_, this.err⟩
       obtain ⟨q1, q2, q3, q4⟩ := this.ok h
       simp only [Tm.sizes] at q4
       exact ⟨by omega, q2, by omega, by omega⟩
   ·rw [if_neg h1]
    exact ⟨l1, l2, Nat.le_refl _, by show k ≤ 201; omega, fun h => absurd h (by show ¬ (1 : Int) = 0; decide), by show (0 : Int) ≤ 1 ∧ (1 : Int) ≤ 13; decide⟩
theorem T0 (s : ByteArray) : ∀ (f : Nat) (n : ByteArray) (acc : List Tm) (i k : Nat), i < s.size → k ≤ 200 → 2 * (s.size - i) ≤ f → Wx s acc i k (rdA s f n acc i k)
 | 0, n, acc, i, k, hi, _, h => by omega
 | f + 1, n, acc, i, k, hi, hk, hf => by
  have h := V5 s f (i + 1) k (by omega) hk (by omega)
  have hle := h.le
  have hin := h.in_
  have hkn := h.knots
  have hmo := h.most
  rw [rdA]
  generalize rd s f (i + 1) k = r at *
  by_cases h0 : r.e = 0
  ·obtain ⟨o1, o2, o3, o4⟩ := h.ok h0
   rw [if_pos h0]
   by_cases h1 : r.i = s.size
   ·rw [if_pos h1]
    exact ⟨by show i ≤ r.i; omega, hin, hkn, hmo, fun h => absurd h (by show ¬ (13 : Int) = 0; decide), by show (0 : Int) ≤ 13 ∧ (13 : Int) ≤ 13; decide⟩
   ·rw [if_neg h1]
    by_cases h2 : Ah s r.i = 41
    ·rw [if_pos h2]
     refine ⟨by show i ≤ r.i + 1; omega, by show r.i + 1 ≤ s.size; omega, hkn, hmo, fun _ => ⟨by show i < r.i + 1; omega, o2, o3, ?_⟩, by show (0 : Int) ≤ 0 ∧ (0 : Int) ≤ 13; decide⟩
     show 1 + Tm.sizes (acc ++ [r.t]) ≤ _
     rw [Ka]
     show _ ≤ r.k - k + _
     omega
    ·rw [if_neg h2]
     by_cases h3 : Ah s r.i = 44
     ·rw [if_pos h3]
      have := T0 s f n (acc ++ [r.t]) r.i r.k (by omega) o2 (by omega)
      refine ⟨by have := this.le; omega, this.in_, by have := this.knots; omega, this.most, fun h => ?_, this.err⟩
      obtain ⟨q1, q2, q3, q4⟩ := this.ok h
      rw [Ka] at q4
      exact ⟨by omega, q2, by omega, by omega⟩
     ·rw [if_neg h3]
      exact ⟨by show i ≤ r.i; omega, hin, hkn, hmo, fun h => absurd h (by show ¬ (12 : Int) = 0; decide), by show (0 : Int) ≤ 12 ∧ (12 : Int) ≤ 13; decide⟩
  ·rw [if_neg h0]
   exact ⟨by show i ≤ r.i; omega, hin, hkn, hmo, fun h => absurd h h0, h.err⟩
end
def rdS (s : ByteArray) : Rd := rd s (2 * s.size + 1) 0 0
def F0 (s : ByteArray) : Tm × Int := if 4000 < s.size then (.mk ⟨#[]⟩ [], 3) else if (rdS s).e = 0 then (if (rdS s).i < s.size then (.mk ⟨#[]⟩ [], 12) else ((rdS s).t, 0)) else (.mk ⟨#[]⟩ [], (rdS s).e)

open Go.RowKit
set_option linter.unusedSimpArgs false
set_option maxHeartbeats 1000000
theorem IWP.cut {P : Program} {C : Ctx} {mu : List Nat} {Q : AX → AS → Prop} {s : AS} {x : IR} (id : Nat) (M : AS → Prop) (h1 : IWP P C mu x (fun e s => e = .exit id ∧ M s) s) (h2 : ∀ s, M s → Q (.exit id) s) : IWP P C mu x Q s :=
 h1.mono fun e s h => by
  obtain ⟨rfl, hm⟩ := h
  exact h2 s hm
abbrev QF : AN := .box 29 [.st (.str ⟨#[]⟩), .full []]
def rdV (r : Rd) : AV := .tup [aTm r.t, AK r.i, AK r.k, AK r.e]
theorem VX {s : ByteArray} {f i k : Nat} (h0 : Ae s i = i) : rd s (f + 1) i k = ⟨.mk ⟨#[]⟩ [], i, k, if i = s.size then 13 else 12⟩ := by rw [rd, if_pos h0]
theorem Vv {s : ByteArray} {f i k : Nat} (h0 : ¬ Ae s i = i) (h1 : ¬ Ax (s.extract i (Ae s i)) = true) : rd s (f + 1) i k = ⟨.mk (s.extract i (Ae s i)) [], Ae s i, k, 1⟩ := by rw [rd, if_neg h0, if_neg h1]
theorem Uw {s : ByteArray} {f i k : Nat} (h0 : ¬ Ae s i = i) (h1 : Ax (s.extract i (Ae s i)) = true) (h2 : 200 < k + 1) : rd s (f + 1) i k = ⟨.mk (s.extract i (Ae s i)) [], Ae s i, k + 1, 3⟩ := by rw [rd, if_neg h0, if_pos h1, if_pos h2]
theorem RB {s : ByteArray} {f i k : Nat} (h0 : ¬ Ae s i = i) (h1 : Ax (s.extract i (Ae s i)) = true) (h2 : ¬ 200 < k + 1) (h3 : Ae s i = s.size ∨ Ah s (Ae s i) ≠ 40) : rd s (f + 1) i k = ⟨.mk (s.extract i (Ae s i)) [], Ae s i, k + 1, 0⟩ := by rw [rd, if_neg h0, if_pos h1, if_neg h2, if_pos h3]
theorem VV {s : ByteArray} {f i k : Nat} (h0 : ¬ Ae s i = i) (h1 : Ax (s.extract i (Ae s i)) = true) (h2 : ¬ 200 < k + 1) (h3 : ¬ (Ae s i = s.size ∨ Ah s (Ae s i) ≠ 40)) (h4 : AL (s.extract i (Ae s i)) = true) : rd s (f + 1) i k = ⟨.mk (s.extract i (Ae s i)) [], Ae s i, k + 1, 2⟩ := by rw [rd, if_neg h0, if_pos h1, if_neg h2, if_neg h3, if_pos h4]
theorem Vi {s : ByteArray} {f i k : Nat} (h0 : ¬ Ae s i = i) (h1 : Ax (s.extract i (Ae s i)) = true) (h2 : ¬ 200 < k + 1) (h3 : ¬ (Ae s i = s.size ∨ Ah s (Ae s i) ≠ 40)) (h4 : ¬ AL (s.extract i (Ae s i)) = true) : rd s (f + 1) i k = rdA s f (s.extract i (Ae s i)) [] (Ae s i) (k + 1) := by rw [rd, if_neg h0, if_pos h1, if_neg h2, if_neg h3, if_neg h4]
theorem VA {s : ByteArray} {f : Nat} {n : ByteArray} {acc : List Tm} {i k : Nat} (h : ¬ (rd s f (i + 1) k).e = 0) : rdA s (f + 1) n acc i k = ⟨.mk n acc, (rd s f (i + 1) k).i, (rd s f (i + 1) k).k, (rd s f (i + 1) k).e⟩ := by rw [rdA, if_neg h]
theorem SB {s : ByteArray} {f : Nat} {n : ByteArray} {acc : List Tm} {i k : Nat} (h : (rd s f (i + 1) k).e = 0) (h1 : (rd s f (i + 1) k).i = s.size) : rdA s (f + 1) n acc i k = ⟨.mk n (acc ++ [(rd s f (i + 1) k).t]), (rd s f (i + 1) k).i, (rd s f (i + 1) k).k, 13⟩ := by rw [rdA, if_pos h, if_pos h1]
theorem Sl {s : ByteArray} {f : Nat} {n : ByteArray} {acc : List Tm} {i k : Nat} (h : (rd s f (i + 1) k).e = 0) (h1 : ¬ (rd s f (i + 1) k).i = s.size) (h2 : Ah s (rd s f (i + 1) k).i = 41) : rdA s (f + 1) n acc i k = ⟨.mk n (acc ++ [(rd s f (i + 1) k).t]), (rd s f (i + 1) k).i + 1, (rd s f (i + 1) k).k, 0⟩ := by rw [rdA, if_pos h, if_neg h1, if_pos h2]
theorem WW {s : ByteArray} {f : Nat} {n : ByteArray} {acc : List Tm} {i k : Nat} (h : (rd s f (i + 1) k).e = 0) (h1 : ¬ (rd s f (i + 1) k).i = s.size) (h2 : ¬ Ah s (rd s f (i + 1) k).i = 41) (h3 : Ah s (rd s f (i + 1) k).i = 44) : rdA s (f + 1) n acc i k = rdA s f n (acc ++ [(rd s f (i + 1) k).t]) (rd s f (i + 1) k).i (rd s f (i + 1) k).k := by rw [rdA, if_pos h, if_neg h1, if_neg h2, if_pos h3]
theorem TR {s : ByteArray} {f : Nat} {n : ByteArray} {acc : List Tm} {i k : Nat} (h : (rd s f (i + 1) k).e = 0) (h1 : ¬ (rd s f (i + 1) k).i = s.size) (h2 : ¬ Ah s (rd s f (i + 1) k).i = 41) (h3 : ¬ Ah s (rd s f (i + 1) k).i = 44) : rdA s (f + 1) n acc i k = ⟨.mk n (acc ++ [(rd s f (i + 1) k).t]), (rd s f (i + 1) k).i, (rd s f (i + 1) k).k, 12⟩ := by rw [rdA, if_pos h, if_neg h1, if_neg h2, if_neg h3]
theorem GD (acc : List Tm) (a : Tm) : (acc ++ [a]).map Ap = acc.map Ap ++ [[.str a.name, .list (a.args.map Ap)]] := by
 rw [List.map_append, List.map_cons, List.map_nil, BC a]
theorem WE (s : ByteArray) (hs : s.size ≤ 100000) : ∀ f i k : Nat, i ≤ s.size → k ≤ 200 → 2 * (s.size - i) < f → AQ Tryz.prog 54 [Bi s, AK i, AK k] (rdV (rd s f i k)) := by
 intro f
 induction f using Nat.strongRecOn with
 | _ f ih =>
 intro i k hi hk hf
 obtain ⟨f, rfl⟩ : ∃ g, f = g + 1 := ⟨f - 1, by omega⟩
 obtain ⟨l1, l2⟩ := Ny hi
 refine Rm.ac fun C hC => ?_
 unfold L_
 repeat' with_reducible first | refine W ?_ | refine Z0 ?_ | ((first | refine Wo fun K hK => ?_ | refine Wp ?_ | refine Wq ?_ | refine Wr ?_); (try simp only [go_sem, fN, seval, eT, iR, dT, dF, nL]); (repeat refine Ai ?_); (try (refine hK _ ?_; clear hK K)); try refine iC ?_)
 refine IWP.cut 0 (fun x => x.env 0 = Bi s ∧ x.env 1 = AK (Ae s i) ∧ x.env 2 = AK k ∧ x.env 10 = AK i ∧ x.env 6 = .one (.ptr 6 1 0 0) ∧ x.S 6 = some QF ∧ x.S 11 = none ∧ x.S 12 = none ∧ x.S 900 = none) ?_ ?_
 ·refine IWP.loop (fun m x => ∃ j, i ≤ j ∧ j ≤ s.size ∧ m = s.size - j ∧ Ae s i = Ae s j ∧ x.env 0 = Bi s ∧ x.env 1 = AK j ∧ x.env 2 = AK k ∧ x.env 10 = AK i ∧ x.env 6 = .one (.ptr 6 1 0 0) ∧ x.S 6 = some QF ∧ x.S 11 = none ∧ x.S 12 = none ∧ x.S 900 = none) (s.size - i) ⟨i, Nat.le_refl _, hi, rfl, rfl, rfl, rfl, rfl, rfl, rfl, rfl, rfl, rfl, rfl⟩ ?_
  rintro m ⟨env, S⟩ ⟨j, hij, hj, rfl, hl, e0, e1, e2, e10, e6, s6, s11, s12, s900⟩
  simp only at e0 e1 e2 e10 e6 s6 s11 s12 s900
  by_cases hlt : (j : Int) < s.size
  ·have hb := FF s j
   by_cases hlet : A_ (FM s j) = true
   ·repeat' (first | (with_reducible first | refine W ?_ | refine Z0 ?_ | ((first | refine Wo fun K hK => ?_ | refine Wp ?_ | refine Wq ?_ | refine Wr ?_); (try simp only [go_sem, fN, seval, eT, iR, e0, e1, e2, e10, e6, s6, hlt, hlet, dT, dF, nL]); (repeat refine Ai ?_); (try (refine hK _ ?_; clear hK K)); try refine iC ?_)) | refine Cg _ (G0 (FM s j) hb.1) ?_)
    refine AE ⟨s.size - (j + 1), by omega, j + 1, by omega, by omega, rfl, ?_, ?_⟩
    ·rw [hl]
     exact Tr (by omega) hlet
    ·simp only [go_sem, fN, seval, eT, iR, e0, e1, e2, e10, e6, s6, s11, s12, s900]
     congr 3
   ·have hst : Ae s j = j := PR (by omega) hlet
    repeat' (first | (with_reducible first | refine W ?_ | refine Z0 ?_ | ((first | refine Wo fun K hK => ?_ | refine Wp ?_ | refine Wq ?_ | refine Wr ?_); (try simp only [go_sem, fN, seval, eT, iR, e0, e1, e2, e10, e6, s6, hlt, hlet, dT, dF, nL]); (repeat refine Ai ?_); (try (refine hK _ ?_; clear hK K)); try refine iC ?_)) | refine Cg _ (G0 (FM s j) hb.1) ?_)
    refine ⟨rfl, ?_⟩
    simp only [go_sem, fN, seval, eT, iR, e0, e1, e2, e10, e6, s6, s11, s12, s900]
    rw [hl, hst]
  ·have hst : Ae s j = j := Rj (by omega)
   repeat' with_reducible first | refine W ?_ | refine Z0 ?_ | ((first | refine Wo fun K hK => ?_ | refine Wp ?_ | refine Wq ?_ | refine Wr ?_); (try simp only [go_sem, fN, seval, eT, iR, e0, e1, e2, e10, e6, s6, hlt, dT, dF, nL]); (repeat refine Ai ?_); (try (refine hK _ ?_; clear hK K)); try refine iC ?_)
   refine ⟨rfl, ?_⟩
   simp only [go_sem, fN, seval, eT, iR, e0, e1, e2, e10, e6, s6, s11, s12, s900]
   rw [hl, hst]
 rintro ⟨env, S⟩ ⟨e0, e1, e2, e10, e6, s6, s11, s12, s900⟩
 simp only at e0 e1 e2 e10 e6 s6 s11 s12 s900
 by_cases h0 : Ae s i = i
 ·rw [VX h0]
  rw [h0] at e1
  unfold rdV
  by_cases hsz : i = s.size
  ·have hszi : (i : Int) = s.size := by omega
   rw [if_pos hsz]
   repeat' with_reducible first | refine W ?_ | refine Z0 ?_ | ((first | refine Wo fun K hK => ?_ | refine Wp ?_ | refine Wq ?_ | refine Wr ?_); (try simp only [go_sem, fN, seval, eT, iR, e0, e1, e2, e10, e6, s6, hszi, dT, dF, nL]); (repeat refine Ai ?_); (try (refine hK _ ?_; clear hK K)); try refine iC ?_)
   simp only [go_sem, fN, seval, AJ, AS.result, AA, AB, AH, e6, s6]
   rfl
  ·have hszi : ¬ (i : Int) = s.size := by omega
   rw [if_neg hsz]
   repeat' with_reducible first | refine W ?_ | refine Z0 ?_ | ((first | refine Wo fun K hK => ?_ | refine Wp ?_ | refine Wq ?_ | refine Wr ?_); (try simp only [go_sem, fN, seval, eT, iR, e0, e1, e2, e10, e6, s6, hszi, dT, dF, nL]); (repeat refine Ai ?_); (try (refine hK _ ?_; clear hK K)); try refine iC ?_)
   simp only [go_sem, fN, seval, AJ, AS.result, AA, AB, AH, e6, s6]
   rfl
 have h0i : ¬ ((Ae s i : Nat) : Int) = i := by omega
 by_cases h1 : Ax (s.extract i (Ae s i)) = true
 case neg =>
  rw [Vv h0 h1]
  unfold rdV
  repeat' (first | (with_reducible first | refine W ?_ | refine Z0 ?_ | ((first | refine Wo fun K hK => ?_ | refine Wp ?_ | refine Wq ?_ | refine Wr ?_); (try simp only [go_sem, fN, seval, eT, iR, e0, e1, e2, e10, e6, s6, s11, h0i, h1, dT, dF, nL]); (repeat refine Ai ?_); (try (refine hK _ ?_; clear hK K)); try refine iC ?_)) | refine Cg _ (D_ (s.extract i (Ae s i))) ?_)
  simp only [go_sem, fN, seval, AJ, AS.result, AA, AB, AH, e6, s6]
  rfl
 case pos =>
 by_cases h2 : 200 < k + 1
 ·have h2i : (200 : Int) < k + 1 := by omega
  rw [Uw h0 h1 h2]
  unfold rdV
  repeat' (first | (with_reducible first | refine W ?_ | refine Z0 ?_ | ((first | refine Wo fun K hK => ?_ | refine Wp ?_ | refine Wq ?_ | refine Wr ?_); (try simp only [go_sem, fN, seval, eT, iR, e0, e1, e2, e10, e6, s6, s11, h0i, h1, h2i, dT, dF, nL]); (repeat refine Ai ?_); (try (refine hK _ ?_; clear hK K)); try refine iC ?_)) | refine Cg _ (D_ (s.extract i (Ae s i))) ?_)
  simp only [go_sem, fN, seval, AJ, AS.result, AA, AB, AH, e6, s6]
  rfl
 have h2i : ¬ (200 : Int) < k + 1 := by omega
 by_cases h3 : Ae s i = s.size
 ·have h3i : ((Ae s i : Nat) : Int) = s.size := by omega
  have h0s : ¬ (s.size : Int) = i := by omega
  rw [RB h0 h1 h2 (.inl h3)]
  unfold rdV
  rw [h3] at h1 e1
  rw [h3]
  repeat' (first | (with_reducible first | refine W ?_ | refine Z0 ?_ | ((first | refine Wo fun K hK => ?_ | refine Wp ?_ | refine Wq ?_ | refine Wr ?_); (try simp only [go_sem, fN, seval, eT, iR, e0, e1, e2, e10, e6, s6, s11, h0s, h1, h2i, dT, dF, nL]); (repeat refine Ai ?_); (try (refine hK _ ?_; clear hK K)); try refine iC ?_)) | refine Cg _ (D_ (s.extract i s.size)) ?_)
  simp only [go_sem, fN, seval, AJ, AS.result, AA, AB, AH, e6, s6]
  rfl
 have h3i : ¬ ((Ae s i : Nat) : Int) = s.size := by omega
 by_cases h3' : FM s (Ae s i) = 40
 case neg =>
  rw [RB h0 h1 h2 (.inr h3')]
  unfold rdV
  repeat' (first | (with_reducible first | refine W ?_ | refine Z0 ?_ | ((first | refine Wo fun K hK => ?_ | refine Wp ?_ | refine Wq ?_ | refine Wr ?_); (try simp only [go_sem, fN, seval, eT, iR, e0, e1, e2, e10, e6, s6, s11, h0i, h1, h2i, h3i, h3', dT, dF, nL]); (repeat refine Ai ?_); (try (refine hK _ ?_; clear hK K)); try refine iC ?_)) | refine Cg _ (D_ (s.extract i (Ae s i))) ?_)
  simp only [go_sem, fN, seval, AJ, AS.result, AA, AB, AH, e6, s6]
  rfl
 case pos =>
 have h3n : ¬ (Ae s i = s.size ∨ Ah s (Ae s i) ≠ 40) := fun h => h.elim h3 (fun h => h h3')
 by_cases h4 : AL (s.extract i (Ae s i)) = true
 ·rw [VV h0 h1 h2 h3n h4]
  unfold rdV
  repeat' (first | (with_reducible first | refine W ?_ | refine Z0 ?_ | ((first | refine Wo fun K hK => ?_ | refine Wp ?_ | refine Wq ?_ | refine Wr ?_); (try simp only [go_sem, fN, seval, eT, iR, e0, e1, e2, e10, e6, s6, s11, h0i, h1, h2i, h3i, h3', h4, dT, dF, nL]); (repeat refine Ai ?_); (try (refine hK _ ?_; clear hK K)); try refine iC ?_)) | refine Cg _ (D_ (s.extract i (Ae s i))) ?_ | refine Cg _ (Ba (s.extract i (Ae s i))) ?_)
  simp only [go_sem, fN, seval, AJ, AS.result, AA, AB, AH, e6, s6]
  rfl
 rw [Vi h0 h1 h2 h3n h4]
 have hlt0 : Ae s i < s.size := by omega
 have hf0 : 2 * (s.size - Ae s i) ≤ f := by omega
 clear h0
 obtain ⟨n, hn⟩ : ∃ n, s.extract i (Ae s i) = n := ⟨_, rfl⟩
 rw [hn] at h1 h4 ⊢
 generalize Ae s i = to at *
 repeat' (first | (with_reducible first | refine W ?_ | refine Z0 ?_ | ((first | refine Wo fun K hK => ?_ | refine Wp ?_ | refine Wq ?_ | refine Wr ?_); (try simp only [go_sem, fN, seval, eT, iR, e0, e1, e2, e10, e6, s6, s11, h0i, h1, h2i, h3i, h3', h4, hn, dT, dF, nL]); (repeat refine Ai ?_); (try (refine hK _ ?_; clear hK K)); try refine iC ?_)) | refine Cg _ (D_ n) ?_ | refine Cg _ (Ba n) ?_)
 refine IWP.ghost (Af.ownC 11 1 900 29 2 (xs := ([] : List Tm).map Ap) rfl rfl (by simp only [go_sem, fN, seval, eT, iR, s900, s11]) CS) ?_
 refine IWP.loopD [12] (fun m x => ∃ (g : Nat) (acc : List Tm) (j c : Nat), rdA s f n [] to (k + 1) = rdA s g n acc j c ∧ m = s.size - j ∧ 2 * (s.size - j) ≤ g ∧ g ≤ f ∧ j < s.size ∧ c ≤ 200 ∧ acc.length ≤ c ∧ x.env 0 = Bi s ∧ x.env 1 = AK j ∧ x.env 2 = AK c ∧ x.env 6 = .one (.ptr 6 1 0 0) ∧ x.env 11 = .one (.ptr 11 1 0 0) ∧ x.S 6 = some QF ∧ x.S 11 = some (.box 29 [.st (.str n), .row 900 acc.length]) ∧ x.S 900 = some (.arow 29 2 (acc.map Ap)) ∧ x.S 12 = none)
  (s.size - to) ⟨f, [], to, k + 1, rfl, rfl, hf0, Nat.le_refl _, hlt0, by omega, by simp, ?_⟩ ?_
 ·simp only [go_sem, fN, seval, eT, iR, e0, e1, e2, e10, e6, s6, s11, s12, s900]
  exact ⟨by congr 3, rfl⟩
 rintro m ⟨env, S⟩ ⟨g, acc, j, c, hrd, rfl, hg, hgf, hj, hc, hac, e0, e1, e2, e6, e11, s6, s11, s900, s12⟩
 simp only at e0 e1 e2 e6 e11 s6 s11 s900 s12
 rw [hrd]
 obtain ⟨g, rfl⟩ : ∃ g', g = g' + 1 := ⟨g - 1, by omega⟩
 have hcall := ih g (by omega) (j + 1) c (by omega) hc (by omega)
 have hok := V5 s g (j + 1) c (by omega) hc (by omega)
 rw [show ((j + 1 : Nat) : Int) = (j : Int) + 1 by omega] at hcall
 have hle := hok.le
 have hin := hok.in_
 have hal : (acc.map Ap).length = acc.length := List.length_map _
 by_cases q0 : (rd s g (j + 1) c).e = 0
 case neg =>
  rw [VA q0]
  unfold rdV at hcall ⊢
  repeat' (first | (with_reducible first | refine W ?_ | refine Z0 ?_ | ((first | refine Wo fun K hK => ?_ | refine Wp ?_ | refine Wq ?_ | refine Wr ?_); (try simp only [go_sem, fN, seval, eT, iR, e0, e1, e2, e6, e11, s6, s11, s900, s12, q0, dT, dF, nL]); (repeat refine Ai ?_); (try (refine hK _ ?_; clear hK K)); try refine iC ?_)) | refine Cg _ (hcall) ?_)
  simp only [go_sem, fN, seval, AJ, AS.result, AA, AB, AH, e6, s6, s11, s900]
  rfl
 case pos =>
 obtain ⟨o1, o2, o3, o4⟩ := hok.ok q0
 by_cases q1 : (rd s g (j + 1) c).i = s.size
 ·have q1i : (((rd s g (j + 1) c).i : Nat) : Int) = s.size := by omega
  rw [SB q0 q1]
  unfold rdV at hcall ⊢
  repeat' (first | (with_reducible first | refine W ?_ | refine Z0 ?_ | ((first | refine Wo fun K hK => ?_ | refine Wp ?_ | refine Wq ?_ | refine Wr ?_); (try simp only [go_sem, fN, seval, eT, iR, e0, e1, e2, e6, e11, s6, s11, s900, s12, q0, q1i, dT, dF, nL]); (repeat refine Ai ?_); (try (refine hK _ ?_; clear hK K)); try refine iC ?_)) | refine Cg _ (hcall) ?_)
  simp only [go_sem, fN, seval, AJ, AS.result, AA, AB, AH, e6, s6, s11, s900]
  rw [← GD]
  rfl
 have q1i : ¬ (((rd s g (j + 1) c).i : Nat) : Int) = s.size := by omega
 by_cases q2 : FM s (rd s g (j + 1) c).i = 41
 ·rw [Sl q0 q1 q2]
  unfold rdV at hcall ⊢
  repeat' (first | (with_reducible first | refine W ?_ | refine Z0 ?_ | ((first | refine Wo fun K hK => ?_ | refine Wp ?_ | refine Wq ?_ | refine Wr ?_); (try simp only [go_sem, fN, seval, eT, iR, e0, e1, e2, e6, e11, s6, s11, s900, s12, q0, q1i, q2, dT, dF, nL]); (repeat refine Ai ?_); (try (refine hK _ ?_; clear hK K)); try refine iC ?_)) | refine Cg _ (hcall) ?_)
  simp only [go_sem, fN, seval, AJ, AS.result, AA, AB, AH, e6, s6, s11, s900]
  rw [← GD]
  rfl
 by_cases q3 : FM s (rd s g (j + 1) c).i = 44
 ·rw [WW q0 q1 q2 q3]
  unfold rdV at hcall
  repeat' (first | (with_reducible first | refine W ?_ | refine Z0 ?_ | ((first | refine Wo fun K hK => ?_ | refine Wp ?_ | refine Wq ?_ | refine Wr ?_); (try simp only [go_sem, fN, seval, eT, iR, e0, e1, e2, e6, e11, s6, s11, s900, s12, q0, q1i, q2, q3, dT, dF, nL]); (repeat refine Ai ?_); (try (refine hK _ ?_; clear hK K)); try refine iC ?_)) | refine Cg _ (hcall) ?_)
  refine AE ⟨s.size - (rd s g (j + 1) c).i, by omega, g, acc ++ [(rd s g (j + 1) c).t], (rd s g (j + 1) c).i, (rd s g (j + 1) c).k, rfl, rfl, by omega, by omega, by omega, o2, by simp; omega, ?_⟩
  simp only [go_sem, fN, seval, AS.drop, Ak, AC.clears, AC.clear, AC.highs, AC.high, Bool.not_false, Bool.true_and, Bool.and_self, AV.purge, AV.purges, AC.purge, AN.purge, List.contains_cons, List.contains_nil, Nat.reduceBEq, Bool.or_self, Bool.or_false, Bool.false_or, Bool.or_true, eT, iR, e0, e1, e2, e6, e11, s6, s11, s900, s12]
  rw [GD]
 ·rw [TR q0 q1 q2 q3]
  unfold rdV at hcall ⊢
  repeat' (first | (with_reducible first | refine W ?_ | refine Z0 ?_ | ((first | refine Wo fun K hK => ?_ | refine Wp ?_ | refine Wq ?_ | refine Wr ?_); (try simp only [go_sem, fN, seval, eT, iR, e0, e1, e2, e6, e11, s6, s11, s900, s12, q0, q1i, q2, q3, dT, dF, nL]); (repeat refine Ai ?_); (try (refine hK _ ?_; clear hK K)); try refine iC ?_)) | refine Cg _ (hcall) ?_)
  simp only [go_sem, fN, seval, AJ, AS.result, AA, AB, AH, e6, s6, s11, s900]
  rw [← GD]
  rfl
def MX (r : Tm × Int) : AV := .tup [aTm r.1, AK r.2]
theorem RH (s : ByteArray) : AQ Tryz.prog 27 [Bi s] (MX (F0 s)) := by
 have hro : F0 s = if 4000 < s.size then (.mk ⟨#[]⟩ [], 3) else if (rdS s).e = 0 then (if (rdS s).i < s.size then (.mk ⟨#[]⟩ [], 12) else ((rdS s).t, 0)) else (.mk ⟨#[]⟩ [], (rdS s).e) := rfl
 refine SX.ac fun C hC => ?_
 unfold Lp
 by_cases h0 : (4000 : Int) < s.size
 ·rw [hro, if_pos (by omega)]
  unfold MX
  repeat' with_reducible first | refine W ?_ | refine Z0 ?_ | ((first | refine Wo fun K hK => ?_ | refine Wp ?_ | refine Wq ?_ | refine Wr ?_); (try simp only [go_sem, fN, seval, eT, iR, h0, dT, dF, nL]); (repeat refine Ai ?_); (try (refine hK _ ?_; clear hK K)); try refine iC ?_)
  simp only [go_sem, fN, seval, AJ, AS.result, AA, AB, AH]
  rfl
 rw [hro, if_neg (by omega)]
 have hcall := WE s (by omega) (2 * s.size + 1) 0 0 (by omega) (by omega) (by omega)
 have hr : rd s (2 * s.size + 1) 0 0 = rdS s := rfl
 rw [hr] at hcall
 unfold rdV at hcall
 by_cases h1 : (rdS s).e = 0
 ·rw [if_pos h1]
  by_cases h2 : (rdS s).i < s.size
  ·have h2i : ((rdS s).i : Int) < s.size := by omega
   rw [if_pos h2]
   unfold MX
   repeat' (first | (with_reducible first | refine W ?_ | refine Z0 ?_ | ((first | refine Wo fun K hK => ?_ | refine Wp ?_ | refine Wq ?_ | refine Wr ?_); (try simp only [go_sem, fN, seval, eT, iR, h0, h1, h2i, dT, dF, nL]); (repeat refine Ai ?_); (try (refine hK _ ?_; clear hK K)); try refine iC ?_)) | refine Cg _ (hcall) ?_)
   simp only [go_sem, fN, seval, AJ, AS.result, AA, AB, AH]
   rfl
  ·have h2i : ¬ ((rdS s).i : Int) < s.size := by omega
   rw [if_neg h2]
   unfold MX
   repeat' (first | (with_reducible first | refine W ?_ | refine Z0 ?_ | ((first | refine Wo fun K hK => ?_ | refine Wp ?_ | refine Wq ?_ | refine Wr ?_); (try simp only [go_sem, fN, seval, eT, iR, h0, h1, h2i, dT, dF, nL]); (repeat refine Ai ?_); (try (refine hK _ ?_; clear hK K)); try refine iC ?_)) | refine Cg _ (hcall) ?_)
   simp only [go_sem, fN, seval, AJ, AS.result, AA, AB, AH]
 ·rw [if_neg h1]
  unfold MX
  repeat' (first | (with_reducible first | refine W ?_ | refine Z0 ?_ | ((first | refine Wo fun K hK => ?_ | refine Wp ?_ | refine Wq ?_ | refine Wr ?_); (try simp only [go_sem, fN, seval, eT, iR, h0, h1, dT, dF, nL]); (repeat refine Ai ?_); (try (refine hK _ ?_; clear hK K)); try refine iC ?_)) | refine Cg _ (hcall) ?_)
  simp only [go_sem, fN, seval, AJ, AS.result, AA, AB, AH]
  rfl

set_option maxRecDepth 100000
def Fa : IR :=
 (.seq (.ops [.i 2 (.mov (.c (.one (.full []))))]) (.seq (.ops [.i 11 (.buildFlat [.c (.one (.st (.str (ByteArray.mk (#[102, 40, 97, 44, 88, 41]))))), .c (.one (.st (.str (ByteArray.mk (#[88]))))), .c (.one (.st (.str (ByteArray.mk (#[102, 40, 104, 40, 88, 41, 44, 89, 41]))))), .c (.one (.st (.str (ByteArray.mk (#[104, 40, 102, 40, 88, 44, 89, 41, 41])))))]), .i 12 (.buildFlat [.c (.one (.st (.str (ByteArray.mk (#[102, 40, 88, 44, 97, 41]))))), .c (.one (.st (.str (ByteArray.mk (#[88]))))), .c (.one (.st (.str (ByteArray.mk (#[102, 40, 88, 44, 104, 40, 89, 41, 41]))))), .c (.one (.st (.str (ByteArray.mk (#[104, 40, 102, 40, 88, 44, 89, 41, 41]))))), .c (.one (.st (.str (ByteArray.mk (#[102, 40, 97, 44, 88, 41]))))), .c (.one (.st (.str (ByteArray.mk (#[88])))))]), .i 13 (.buildFlat [.c (.one (.st (.str (ByteArray.mk (#[102, 40, 102, 40, 88, 44, 89, 41, 44, 90, 41]))))), .c (.one (.st (.str (ByteArray.mk (#[102, 40, 88, 44, 102, 40, 89, 44, 90, 41, 41])))))]), .i 14 (.buildFlat [.c (.one (.st (.str (ByteArray.mk (#[107, 40, 107, 40, 88, 41, 41]))))), .c (.one (.st (.str (ByteArray.mk (#[88]))))), .c (.one (.st (.str (ByteArray.mk (#[107, 40, 97, 41]))))), .c (.one (.st (.str (ByteArray.mk (#[97]))))), .c (.one (.st (.str (ByteArray.mk (#[107, 40, 102, 40, 88, 44, 89, 41, 41]))))), .c (.one (.st (.str (ByteArray.mk (#[102, 40, 107, 40, 89, 41, 44, 107, 40, 88, 41, 41])))))]), .i 15 (.buildFlat [.c (.one (.st (.str (ByteArray.mk (#[102, 40, 88, 44, 88, 41]))))), .c (.one (.st (.str (ByteArray.mk (#[88])))))]), .i 16 (.buildFlat [.c (.one (.st (.str (ByteArray.mk (#[104, 40, 107, 40, 88, 41, 41]))))), .c (.one (.st (.str (ByteArray.mk (#[107, 40, 104, 40, 88, 41, 41]))))), .c (.one (.st (.str (ByteArray.mk (#[104, 40, 104, 40, 88, 41, 41]))))), .c (.one (.st (.str (ByteArray.mk (#[104, 40, 88, 41])))))]), .i 17 (.buildFlat [.c (.one (.st (.str (ByteArray.mk (#[102, 40, 97, 44, 98, 41]))))), .c (.one (.st (.str (ByteArray.mk (#[99]))))), .c (.one (.st (.str (ByteArray.mk (#[97]))))), .c (.one (.st (.str (ByteArray.mk (#[98])))))]), .i 18 (.buildFlat [.c (.one (.st (.str (ByteArray.mk (#[103, 40, 88, 44, 89, 41]))))), .c (.one (.st (.str (ByteArray.mk (#[102, 40, 89, 44, 88, 41])))))]), .i 19 (.buildFlat [.c (.one (.st (.str (ByteArray.mk (#[104, 40, 97, 41]))))), .c (.one (.st (.str (ByteArray.mk (#[98]))))), .c (.one (.st (.str (ByteArray.mk (#[104, 40, 97, 41]))))), .c (.one (.st (.str (ByteArray.mk (#[99])))))]), .i 20 (.buildFlat [.c (.one (.st (.str (ByteArray.mk (#[102, 40, 88, 44, 103, 40, 89, 44, 90, 41, 41]))))), .c (.one (.st (.str (ByteArray.mk (#[103, 40, 102, 40, 88, 44, 89, 41, 44, 102, 40, 88, 44, 90, 41, 41])))))]), .i 21 (.buildSlice false 46 1 [.t 11, .t 12, .t 13, .t 14, .t 15, .t 16, .t 17, .t 18, .t 19, .t 20]), .m 3 21]) (.seq (.ops [.m 22 3, .m 23 0, .m 24 3, .i 25 (.len false (.t 24)), .i 26 (.call 14 [.t 23, .t 25]), .i 27 (.indexAddr 1 (.t 22) (.t 26)), .l 28 27, .m 4 28]) (.seq (.ops [.i 5 (.mov (.c (.one (.full []))))]) (.seq (.seq (.ops [.i 6 (.mov (.n 0))]) (.block 0 (.loop (.seq (.seq (.ops [.m 29 6, .i 30 (.bin .add (.t 29) (.n 1)), .m 31 4, .i 32 (.len false (.t 31)), .i 33 (.bin .lss (.t 30) (.t 32))]) (.cond (.t 33) .skip (.exit 0))) (.seq (.block 1 (.seq (.ops [.m 37 4, .m 38 6, .i 39 (.indexAddr 1 (.t 37) (.t 38)), .l 40 39, .i 41 (.call 27 [.t 40]), .m 36 41, .i 42 (.extract 0 (.t 36)), .i 43 (.extract 1 (.t 36)), .i 7 (.alloc 29 [.st (.str (ByteArray.mk (#[]))), .full []]), .s 2 7 42, .m 8 43]) (.seq (.ops [.m 45 4, .m 46 6, .i 47 (.bin .add (.t 46) (.n 1)), .i 48 (.indexAddr 1 (.t 45) (.t 47)), .l 49 48, .i 50 (.call 27 [.t 49]), .m 44 50, .i 51 (.extract 0 (.t 44)), .i 52 (.extract 1 (.t 44)), .i 9 (.alloc 29 [.st (.str (ByteArray.mk (#[]))), .full []]), .s 2 9 51, .m 10 52]) (.ops [.m 53 5, .L 54 2 7, .L 55 2 9, .i 56 (.build [.st (.str (ByteArray.mk (#[]))), .full [], .st (.str (ByteArray.mk (#[]))), .full []] [(0, 2, .t 54), (2, 2, .t 55)]), .i 57 (.buildSlice false 31 4 [.t 56]), .i 58 (.append false 31 4 80 (.t 53) (.t 57)), .m 5 58])))) (.ops [.m 34 6, .i 35 (.bin .add (.t 34) (.n 2)), .m 6 35])))))) (.seq (.ops [.m 59 5, .m 2 59]) .ret))))))
theorem Jj : OkF Tryz.prog 13 60 [] Fa [.t 2] := .of Tryz.func13 rfl rfl (by kernel_rfl) rfl

set_option maxHeartbeats 1600000
def Cf : List (List ByteArray) := [[⟨#[102, 40, 97, 44, 88, 41]⟩, ⟨#[88]⟩, ⟨#[102, 40, 104, 40, 88, 41, 44, 89, 41]⟩, ⟨#[104, 40, 102, 40, 88, 44, 89, 41, 41]⟩],
 [⟨#[102, 40, 88, 44, 97, 41]⟩, ⟨#[88]⟩, ⟨#[102, 40, 88, 44, 104, 40, 89, 41, 41]⟩, ⟨#[104, 40, 102, 40, 88, 44, 89, 41, 41]⟩, ⟨#[102, 40, 97, 44, 88, 41]⟩, ⟨#[88]⟩],
 [⟨#[102, 40, 102, 40, 88, 44, 89, 41, 44, 90, 41]⟩, ⟨#[102, 40, 88, 44, 102, 40, 89, 44, 90, 41, 41]⟩],
 [⟨#[107, 40, 107, 40, 88, 41, 41]⟩, ⟨#[88]⟩, ⟨#[107, 40, 97, 41]⟩, ⟨#[97]⟩, ⟨#[107, 40, 102, 40, 88, 44, 89, 41, 41]⟩, ⟨#[102, 40, 107, 40, 89, 41, 44, 107, 40, 88, 41, 41]⟩],
 [⟨#[102, 40, 88, 44, 88, 41]⟩, ⟨#[88]⟩],
 [⟨#[104, 40, 107, 40, 88, 41, 41]⟩, ⟨#[107, 40, 104, 40, 88, 41, 41]⟩, ⟨#[104, 40, 104, 40, 88, 41, 41]⟩, ⟨#[104, 40, 88, 41]⟩],
 [⟨#[102, 40, 97, 44, 98, 41]⟩, ⟨#[99]⟩, ⟨#[97]⟩, ⟨#[98]⟩],
 [⟨#[103, 40, 88, 44, 89, 41]⟩, ⟨#[102, 40, 89, 44, 88, 41]⟩],
 [⟨#[104, 40, 97, 41]⟩, ⟨#[98]⟩, ⟨#[104, 40, 97, 41]⟩, ⟨#[99]⟩],
 [⟨#[102, 40, 88, 44, 103, 40, 89, 44, 90, 41, 41]⟩, ⟨#[103, 40, 102, 40, 88, 44, 89, 41, 44, 102, 40, 88, 44, 90, 41, 41]⟩]]
noncomputable def Ek : List ByteArray → List Pr
 | a :: b :: l => ((F0 a).1, (F0 b).1) :: Ek l
 | _ => []
noncomputable def Ce (k : Nat) : List Pr := Ek (Cf.getD k [])
theorem SQ {L : List ByteArray} {i : Nat} {a b : ByteArray} (ha : L[i]? = some a) (hb : L[i + 1]? = some b) : Ek (L.drop i) = ((F0 a).1, (F0 b).1) :: Ek (L.drop (i + 2)) := by
 rw [BS ha, BS hb, Ek]
theorem R8 {L : List ByteArray} {i : Nat} (h : L.length ≤ i + 1) : Ek (L.drop i) = [] := by
 have hl : (L.drop i).length ≤ 1 := by rw [List.length_drop]; omega
 match hd : L.drop i, hl with
 | [], _ => rfl
 | [x], _ => rfl
 | x :: y :: l, hl => exact absurd hl (by simp)
theorem MZ : ∀ L : List ByteArray, 2 * (Ek L).length ≤ L.length
 | [] => by simp [Ek]
 | [x] => by simp [Ek]
 | a :: b :: l => by
  have := MZ l
  simp only [Ek, List.length_cons]
  omega
theorem KC (k : Nat) (hk : k < 10) : (Ce k).length ≤ 3 := by
 have h1 := MZ (Cf.getD k [])
 have h2 : ∀ k, k < 10 → (Cf.getD k []).length ≤ 6 := by decide
 have h3 := h2 k hk
 unfold Ce
 omega
theorem I7 (m : Int) (hm : inR .i64 m) : ∃ k : Nat, k < 10 ∧ Dj m 10 = (k : Int) ∧ E2 Tryz.prog 13 [AK m] 31 4 ((Ce k).map At) := by
 have r1 := CC m 10 (by omega)
 have p1 := Fx m 10 hm (by omega)
 obtain ⟨k, e1⟩ : ∃ k : Nat, Dj m 10 = k := ⟨(Dj m 10).toNat, by omega⟩
 rw [e1] at p1 r1
 refine ⟨k, by omega, e1, ?_⟩
 have key : ∀ L : List ByteArray, L.length ≤ 6 → ([[.list [[.str ⟨#[102, 40, 97, 44, 88, 41]⟩], [.str ⟨#[88]⟩], [.str ⟨#[102, 40, 104, 40, 88, 41, 44, 89, 41]⟩], [.str ⟨#[104, 40, 102, 40, 88, 44, 89, 41, 41]⟩]]], [.list [[.str ⟨#[102, 40, 88, 44, 97, 41]⟩], [.str ⟨#[88]⟩], [.str ⟨#[102, 40, 88, 44, 104, 40, 89, 41, 41]⟩], [.str ⟨#[104, 40, 102, 40, 88, 44, 89, 41, 41]⟩], [.str ⟨#[102, 40, 97, 44, 88, 41]⟩], [.str ⟨#[88]⟩]]], [.list [[.str ⟨#[102, 40, 102, 40, 88, 44, 89, 41, 44, 90, 41]⟩], [.str ⟨#[102, 40, 88, 44, 102, 40, 89, 44, 90, 41, 41]⟩]]], [.list [[.str ⟨#[107, 40, 107, 40, 88, 41, 41]⟩], [.str ⟨#[88]⟩], [.str ⟨#[107, 40, 97, 41]⟩], [.str ⟨#[97]⟩], [.str ⟨#[107, 40, 102, 40, 88, 44, 89, 41, 41]⟩], [.str ⟨#[102, 40, 107, 40, 89, 41, 44, 107, 40, 88, 41, 41]⟩]]], [.list [[.str ⟨#[102, 40, 88, 44, 88, 41]⟩], [.str ⟨#[88]⟩]]], [.list [[.str ⟨#[104, 40, 107, 40, 88, 41, 41]⟩], [.str ⟨#[107, 40, 104, 40, 88, 41, 41]⟩], [.str ⟨#[104, 40, 104, 40, 88, 41, 41]⟩], [.str ⟨#[104, 40, 88, 41]⟩]]], [.list [[.str ⟨#[102, 40, 97, 44, 98, 41]⟩], [.str ⟨#[99]⟩], [.str ⟨#[97]⟩], [.str ⟨#[98]⟩]]], [.list [[.str ⟨#[103, 40, 88, 44, 89, 41]⟩], [.str ⟨#[102, 40, 89, 44, 88, 41]⟩]]], [.list [[.str ⟨#[104, 40, 97, 41]⟩], [.str ⟨#[98]⟩], [.str ⟨#[104, 40, 97, 41]⟩], [.str ⟨#[99]⟩]]], [.list [[.str ⟨#[102, 40, 88, 44, 103, 40, 89, 44, 90, 41, 41]⟩], [.str ⟨#[103, 40, 102, 40, 88, 44, 89, 41, 44, 102, 40, 88, 44, 90, 41, 41]⟩]]]] : List (List SV))[k]? = some [.list (L.map DU)] → E2 Tryz.prog 13 [AK m] 31 4 ((Ek L).map At) := fun L hL hrow => by
  unfold E2
  rw [List.length_map]
  refine Jj.acS fun hS C hC => ?_
  unfold Fa
  repeat' (first | (with_reducible first | refine W ?_ | refine Z0 ?_ | ((first | refine Wo fun K hK => ?_ | refine Wp ?_ | refine Wq ?_ | refine Wr ?_); (try simp only [go_sem, fN, seval, eT, iR, hrow, dT, dF, nL]); (repeat refine Ai ?_); (try (refine hK _ ?_; clear hK K)); try refine iC ?_)) | refine Cg _ (p1) ?_)
  refine IWP.ghost (Af.own 5 500 31 4 (xs := ([] : List Pr).map At) (by rfl) (by rfl) Es (by rw [hC]; decide)) ?_
  refine IWP.loopD [7, 9] (fun z s => ∃ i acc, i ≤ L.length + 1 ∧ z = L.length + 1 - i ∧ acc.length ≤ i ∧ Ek L = acc ++ Ek (L.drop i) ∧ s.env 4 = DV L ∧ s.env 5 = .one (.row 500 acc.length) ∧ s.env 6 = AK i ∧ s.S 7 = none ∧ s.S 9 = none ∧ s.S 500 = some (.arow 31 4 (acc.map At)) ∧ ∀ j, 1000 ≤ j → s.S j = none) (L.length + 1) ⟨0, [], Nat.zero_le _, rfl, Nat.le_refl _, rfl, rfl, rfl, rfl, rfl, rfl, rfl, ?_⟩ ?_
  ·intro j hj
   show AM _ _ _ _ = _
   rw [AO _ (by omega)]
   rfl
  rintro z ⟨env, S⟩ ⟨i, acc, hi, rfl, hal, htot, e4, e5, e6, s7, s9, s500, sh⟩
  simp only at e4 e5 e6 s7 s9 s500 sh
  have hl : (acc.map At).length = acc.length := by simp
  by_cases hlt : i + 1 < L.length
  ·have hlt' : ((i : Int) + 1 < L.length) := by omega
   obtain ⟨a, ha⟩ := AT (show i < L.length by omega)
   obtain ⟨b, hb⟩ := AT hlt
   have hi0 : ((i : Int) + 1).toNat = i + 1 := by omega
   have hra := RH a
   have hrb := RH b
   unfold MX at hra hrb
   repeat' (first | (with_reducible first | refine W ?_ | refine Z0 ?_ | ((first | refine Wo fun K hK => ?_ | refine Wp ?_ | refine Wq ?_ | refine Wr ?_); (try simp only [go_sem, fN, seval, eT, iR, e4, e5, e6, s7, s9, s500, hlt', ha, hb, hi0, At, hl, dT, dF, nL]); (repeat refine Ai ?_); (try (refine hK _ ?_; clear hK K)); try refine iC ?_)) | refine Cg _ (hra) ?_ | refine Cg _ (hrb) ?_)
   refine AE ⟨L.length + 1 - (i + 2), by omega, i + 2, acc ++ [((F0 a).1, (F0 b).1)], by omega, rfl, by simp; omega, ?_, ?_⟩
   ·rw [htot, SQ ha hb, List.append_assoc]
    rfl
   ·simp only [go_sem, fN, seval, AS.drop, Ak, AC.clears, AC.clear, AC.highs, AC.high, Bool.not_false, Bool.true_and, Bool.and_self, AV.purge, AV.purges, AC.purge, AN.purge, List.contains_cons, List.contains_nil, Nat.reduceBEq, Bool.or_self, Bool.or_false, Bool.false_or, Bool.or_true, eT, iR, e4, e5, e6, s7, s9, s500]
    refine ⟨by congr 3, ?_, fun j hj => ?_⟩
    ·rw [List.map_append]
     rfl
    ·have n7 : (j = 7) = False := eq_false (by omega)
     have n9 : (j = 9) = False := eq_false (by omega)
     have n500 : (j = 500) = False := eq_false (by omega)
     simp [n7, n9, n500, sh j hj]
  ·have hlt' : ¬ ((i : Int) + 1 < L.length) := by omega
   rw [R8 (by omega), List.append_nil] at htot
   rw [htot]
   repeat' with_reducible first | refine W ?_ | refine Z0 ?_ | ((first | refine Wo fun K hK => ?_ | refine Wp ?_ | refine Wq ?_ | refine Wr ?_); (try simp only [go_sem, fN, seval, eT, iR, e4, e5, e6, s500, hlt', hl, dT, dF, nL]); (repeat refine Ai ?_); (try (refine hK _ ?_; clear hK K)); try refine iC ?_)
   exact Wz (mu := false) trivial 500 (by decide) s500 sh (by simp [AA, AB, AH, AM])
 match k, (show k < 10 by omega) with
 | 0, _ => exact key (Cf.getD 0 []) (by decide) rfl
 | 1, _ => exact key (Cf.getD 1 []) (by decide) rfl
 | 2, _ => exact key (Cf.getD 2 []) (by decide) rfl
 | 3, _ => exact key (Cf.getD 3 []) (by decide) rfl
 | 4, _ => exact key (Cf.getD 4 []) (by decide) rfl
 | 5, _ => exact key (Cf.getD 5 []) (by decide) rfl
 | 6, _ => exact key (Cf.getD 6 []) (by decide) rfl
 | 7, _ => exact key (Cf.getD 7 []) (by decide) rfl
 | 8, _ => exact key (Cf.getD 8 []) (by decide) rfl
 | 9, _ => exact key (Cf.getD 9 []) (by decide) rfl

theorem Mq (l : List Int) (hl : ∀ n ∈ l, inR .i64 n) (hm : l.length ≤ maxLen) (vars : Int) (hv : 1 ≤ vars ∧ vars ≤ 4) (many most : Nat) (h3 : many ≤ 3) (h12 : most ≤ 12) : ∃ ps : List Pr, AQ Tryz.prog 15 [EA l, AK many, AK most, AK vars] (BF ps) := by
 have hstep : ∀ at_ : Nat, at_ ≤ 1000 → ∃ p : Pr, Cy l at_ most vars p.1 ∧ Cy l (at_ + p.1.size) most vars p.2 ∧ p.1.size ≤ 24 ∧ p.2.size ≤ 24 := fun at_ h => by
  obtain ⟨a, ha, hs, _⟩ := T8 l hl hm vars hv most at_ (by omega) (by omega)
  have hs : a.size ≤ 24 := by omega
  obtain ⟨b, hb, hs', _⟩ := T8 l hl hm vars hv most (at_ + a.size) (by omega) (by omega)
  exact ⟨(a, b), ha, hb, hs, by show b.size ≤ 24; omega⟩
 obtain ⟨p0, a0, b0, s0, s0'⟩ := hstep 0 (by omega)
 obtain ⟨p1, a1, b1, s1, s1'⟩ := hstep (0 + p0.1.size + p0.2.size) (by omega)
 obtain ⟨p2, a2, b2, s2, s2'⟩ := hstep (0 + p0.1.size + p0.2.size + p1.1.size + p1.2.size) (by omega)
 obtain ⟨A, hA0, hA⟩ : ∃ A : Nat → Nat, A 0 = 0 ∧ ∀ k, k < 3 → ∃ p, [p0, p1, p2][k]? = some p ∧ Cy l (A k) most vars p.1 ∧ Cy l (A k + p.1.size) most vars p.2 ∧ A (k + 1) = A k + p.1.size + p.2.size := by
  refine ⟨fun k => match k with | 0 => 0 | 1 => 0 + p0.1.size + p0.2.size | 2 => 0 + p0.1.size + p0.2.size + p1.1.size + p1.2.size | _ => 0 + p0.1.size + p0.2.size + p1.1.size + p1.2.size + p2.1.size + p2.2.size, rfl, fun k hk => ?_⟩
  match k, hk with
  | 0, _ => exact ⟨p0, rfl, a0, b0, rfl⟩
  | 1, _ => exact ⟨p1, rfl, a1, b1, rfl⟩
  | 2, _ => exact ⟨p2, rfl, a2, b2, rfl⟩
 generalize hL : [p0, p1, p2] = L at hA
 have hLl : L.length = 3 := by rw [← hL]; rfl
 refine ⟨L.take many, ?_⟩
 refine J5.ac fun C hC => ?_
 unfold FY
 repeat' with_reducible first | refine W ?_ | refine Z0 ?_ | ((first | refine Wo fun K hK => ?_ | refine Wp ?_ | refine Wq ?_ | refine Wr ?_); (try simp only [go_sem, fN, seval, eT, iR, dT, dF, nL]); (repeat refine Ai ?_); (try (refine hK _ ?_; clear hK K)); try refine iC ?_)
 refine IWP.ghost (Af.own 9 900 31 4 (xs := []) rfl rfl (by simp) (by rw [hC]; decide)) ?_
 refine IWP.loopD [12, 14] (fun m x => ∃ k, k ≤ many ∧ m = many - k ∧ x.env 0 = EA l ∧ x.env 1 = AK many ∧ x.env 2 = AK most ∧ x.env 3 = AK vars ∧ x.env 9 = .one (.row 900 k) ∧ x.env 10 = AK (A k) ∧ x.env 11 = AK k ∧ x.S 900 = some (.arow 31 4 ((L.take k).map At)) ∧ x.S 12 = none ∧ x.S 14 = none) many ⟨0, Nat.zero_le _, rfl, rfl, rfl, rfl, rfl, rfl, by rw [hA0]; rfl, rfl, rfl, rfl, rfl⟩ ?_
 rintro m ⟨env, S⟩ ⟨k, hk, rfl, e0, e1, e2, e3, e9, e10, e11, s900, s12, s14⟩
 simp only at e0 e1 e2 e3 e9 e10 e11 s900 s12 s14
 have hlk : (L.take k).length = k := by rw [List.length_take]; omega
 by_cases hlt : (k : Int) < many
 ·obtain ⟨p, hp, ha, hb, hn⟩ := hA k (by omega)
  unfold Cy at ha hb
  repeat' (first | (with_reducible first | refine W ?_ | refine Z0 ?_ | ((first | refine Wo fun K hK => ?_ | refine Wp ?_ | refine Wq ?_ | refine Wr ?_); (try simp only [go_sem, fN, seval, eT, iR, e0, e1, e2, e3, e9, e10, e11, s900, s12, s14, hlt, hlk, dT, dF, nL]); (repeat refine Ai ?_); (try (refine hK _ ?_; clear hK K)); try refine iC ?_)) | refine Cg _ (ha) ?_ | refine Cg _ (hb) ?_)
  refine AE ⟨many - (k + 1), by omega, k + 1, by omega, rfl, ?_⟩
  simp only [go_sem, fN, seval, AS.drop, Ak, AC.clears, AC.clear, AC.highs, AC.high, Bool.not_false, Bool.true_and, Bool.and_self, AV.purge, AV.purges, AC.purge, AN.purge, List.contains_cons, List.contains_nil, Nat.reduceBEq, Bool.or_self, Bool.or_false, Bool.false_or, Bool.or_true, eT, iR, e0, e1, e2, e3, e9, e10, e11, s900, s12, s14]
  refine ⟨by rw [hn], by congr 3, ?_⟩
  rw [AY hp, List.map_append]
  rfl
 ·obtain rfl : k = many := by omega
  repeat' with_reducible first | refine W ?_ | refine Z0 ?_ | ((first | refine Wo fun K hK => ?_ | refine Wp ?_ | refine Wq ?_ | refine Wr ?_); (try simp only [go_sem, fN, seval, eT, iR, e0, e1, e9, e11, s900, hlt, dT, dF, nL]); (repeat refine Ai ?_); (try (refine hK _ ?_; clear hK K)); try refine iC ?_)
  simp only [go_sem, fN, seval, AJ, AS.result, AA, AB, AH, s900, hlk]
theorem KO (l : List Int) (m1 m2 m3 : Int) (hl : ∀ n ∈ l, inR .i64 n) (hm : l.length ≤ maxLen) (h1 : inR .i64 m1) (h2 : inR .i64 m2) (h3 : inR .i64 m3) : AQ Tryz.prog 4 [EA l, AK m1, AK m2, AK m3] (Ab true) := by
 by_cases h0 : (256 : Int) < l.length
 ·refine EL.ac fun C hC => ?_
  unfold C8
  repeat' with_reducible first | refine W ?_ | refine Z0 ?_ | ((first | refine Wo fun K hK => ?_ | refine Wp ?_ | refine Wq ?_ | refine Wr ?_); (try simp only [go_sem, fN, seval, eT, iR, h0, dT, dF, nL]); (repeat refine Ai ?_); (try (refine hK _ ?_; clear hK K)); try refine iC ?_)
  simp only [go_sem, fN, seval, AJ, AS.result, AA, AB, AH]
 have p3 := Fx m3 20 h3 (by omega)
 obtain ⟨k1, q1, -, c1⟩ := I7 m1 h1
 obtain ⟨k2, q2, -, c2⟩ := I7 m2 h2
 obtain ⟨ps, hps⟩ := Mq l hl hm 2 (by omega) 2 7 (by omega) (by omega)
 have z1 : (Ce k1).length ≤ 3 := KC k1 q1
 have z2 : (Ce k2).length ≤ 3 := KC k2 q2
 have l1 : ((Ce k1).map At).length = (Ce k1).length := List.length_map _
 have l2 : ((Ce k2).map At).length = (Ce k2).length := List.length_map _
 have hc := FZ (Ce k1 ++ Ce k2) (Dj m3 20)
 rw [show BF (Ce k1 ++ Ce k2) = .one (.st (.list ((Ce k1).map At ++ (Ce k2).map At))) from by show AV.one (.st (.list ((Ce k1 ++ Ce k2).map At))) = _; rw [List.map_append]] at hc
 refine EL.ac fun C hC => ?_
 unfold C8
 repeat' (first | (with_reducible first | refine W ?_ | refine Z0 ?_ | ((first | refine Wo fun K hK => ?_ | refine Wp ?_ | refine Wq ?_ | refine Wr ?_); (try simp only [go_sem, fN, seval, eT, iR, h0, l1, l2, dT, dF, nL]); (repeat refine Ai ?_); (try (refine hK _ ?_; clear hK K)); try refine iC ?_)) | (first | refine ⟨_, _, _, _, c1, by simp [AM, noS], ?_⟩ | refine ⟨_, _, _, _, c2, by simp [AM, noS], ?_⟩) | refine Cg _ (p3) ?_ | refine Cg _ (hc) ?_ | refine Cg _ (hps) ?_ | refine Cg _ (FZ ps (Dj m3 20)) ?_)
 simp only [go_sem, fN, seval, AJ, AS.result, AA, AB, AH]

open Go.ChangeShapes Go.WideShapes Go.ChangeAt
section
variable {H : Type} {enc : TypeId × Value → H} {P : Program}
theorem Gb (hl : laidOutB P = true) : ∀ {ts : List TypeId} {vs : List Value} {ds : List (DataW H)} {ps : List MemPlace} {W W' : World} {sp : Nat → Bool},
  (∀ t ∈ ts, P.readableRec t = true ∧ t < P.types.size) → DataW.TrodAll enc P W 0 (fun _ => true) true ts vs ds ps → (∀ p ∈ ps, W.sameAt W' p) → (∀ p ∈ ps, sp p.block = true) → DataW.TrodAll enc P W' 0 sp true ts vs ds ps
 | [], [], [], _, _, _, _, _, h, _, _ => h
 | _ :: _, _ :: _, _ :: _, _, _, _, _, hT, ⟨p, q, h1, h2, e⟩, hsame, hs => ⟨p, q, WideElems.Trod_stays hl (hT _ (List.mem_cons.2 (Or.inl rfl))).1 (hT _ (List.mem_cons.2 (Or.inl rfl))).2 h1 (fun x hx => hsame x (by rw [e]; exact List.mem_append_left _ hx)) (fun x hx => hs x (by rw [e]; exact List.mem_append_left _ hx)),
   Gb hl (fun t ht => hT t (List.mem_cons.2 (Or.inr ht))) h2 (fun x hx => hsame x (by rw [e]; exact List.mem_append_right _ hx)) (fun x hx => hs x (by rw [e]; exact List.mem_append_right _ hx)), e⟩
 | [], _ :: _, _, _, _, _, _, _, h, _, _ => h.elim
 | [], [], _ :: _, _, _, _, _, _, h, _, _ => h.elim
 | _ :: _, [], _, _, _, _, _, _, h, _, _ => h.elim
 | _ :: _, _ :: _, [], _, _, _, _, _, h, _, _ => h.elim
theorem Tn {f : Func} {s : ChangeSpec} {apart fresh handsOn : Bool} {W W' : World} {args : Array Value} {ds : List (DataW H)} {before : List MemPlace} {tb : TypeId}
  (hW : DataW.Whole enc P f.params.toList s.vars apart W args.toList ds [] before) (hv : s.vars = []) (hr : f.resultTypes = #[tb]) (htb : P.underlying tb = some .bool)
  (hres : (s.fn H (ds ++ [])).results = [.lit (.bool true)]) (hargs : (s.fn H (ds ++ [])).args = ds) (hvs : (s.fn H (ds ++ [])).vars = [])
  (hl : laidOutB P = true) (hT : (f.params.toList.all fun t => P.readableRec t && decide (t < P.types.size)) = true) (hb : Below W.heap.size W W') :
  s.post enc P f apart fresh handsOn false W args (.bool true) W' := by
 have hlt : ∀ p ∈ before, p.block < W.heap.size := fun p hp => hW.lt p hp
 have hT' : ∀ t ∈ f.params.toList, P.readableRec t = true ∧ t < P.types.size := fun t ht => by
  have := List.all_eq_true.1 hT t ht
  simpa using this
 obtain ⟨p, q, hA, hV, rfl, hz, hn⟩ := hW
 rw [hv] at hV
 obtain ⟨_, rfl⟩ := trodVars_none hV
 have hargs' : ∀ sp : Nat → Bool, (∀ x ∈ p, sp x.block = true) → DataW.TrodAll enc P W' 0 sp true f.params.toList args.toList ds p := fun sp hsp =>
  Gb hl hT' hA (fun x hx => hb.same (hlt x (by simpa using hx))) hsp
 have hres' : ∀ (b : Nat) (sp : Nat → Bool) (hd : Bool), DataW.TrodAll enc P W' b sp hd f.resultTypes.toList ((Value.bool true).resultList f.resultTypes.size) (s.fn H (ds ++ [])).results [] := fun b sp hd => by
  rw [hres, hr]
  exact trodAll_cons_mk (shut_bool htb true) trodAll_mk0
 refine ⟨ds, [], p ++ [], [], p, [], ⟨p, [], hA, by rw [hv]; exact rfl, rfl, hz, hn⟩, hres' _ _ _, by rw [hargs]; exact hargs' _ (fun x hx => by simpa using hlt x (by simpa using hx)), by rw [hv, hvs]; exact rfl,
  World.keptBut_mono (fun x hx => ⟨hx, Or.inr (by simpa using hx)⟩) (hb.frame (· ∈ p ++ [])), fun h => by cases h⟩
variable {W : World} {sp : Nat → Bool} {hd : Bool} {base : Nat}
def sto (W : World) : Sto := Cr W
theorem VN (W : World) : Fit (sto W) W := fun _ _ h => h
theorem Me {W : World} {a : Addr} {v : Value} (h : W.cell? a = some v) : a.spot = none := by
 cases hs : a.spot with
 | none => rfl
 | some n =>
  unfold World.cell? at h
  split at h
  ·simp [hs] at h
  ·cases h
theorem Nv {α : Type} {p : Nat → α → Prop} {n : Nat} (h : ∀ i, i < n → ∃ b, p i b) : ∃ xs : List α, xs.length = n ∧ ∀ i (h : i < xs.length), p i xs[i] := by
 induction n with
 | zero => exact ⟨[], rfl, fun i h => absurd h (by simp)⟩
 | succ m ih =>
  obtain ⟨xs, h1, h2⟩ := ih (fun i hi => h i (by omega))
  obtain ⟨b, h3⟩ := h m (by omega)
  refine ⟨xs ++ [b], by simp [h1], fun i hi => ?_⟩
  by_cases him : i < xs.length
  ·rw [List.getElem_append_left him]
   exact h2 i him
  ·have : i = xs.length := by simp at hi; omega
   subst this
   rw [show (xs ++ [b])[xs.length]'hi = b by simp, h1]
   exact h3
theorem M3 {α : Type} {e0 : α → List SV} {t e : TypeId} {k : Nat} {fuel : Nat} {cs : List Value} {x : DataW H × List MemPlace} (ht : P.underlying t = some (.slice e)) (hc : P.cellsOf e = k) (hlen : ∀ a, (e0 a).length = k) (hk : 0 < k)
  (f : ∀ (n : Nat) (cs : List Value) (y : DataW H × List MemPlace), n < fuel → DataW.trod enc P W base sp hd n e cs = some y → ∃ a : α, Ag (Av (sto W)) cs (e0 a))
  (h : DataW.trod enc P W base sp hd fuel t cs = some x) (hs : CM = true → k < 2 := by decide) : ∃ xs : List α, Ag (Av (sto W)) cs [.list (xs.map e0)] := by
 rcases DataW.trod_slice ht h with ⟨rfl, _⟩ | ⟨a, len, cap, DW, rest, n, hfu, rfl, _, hb, hl, hm, hlen', hel, _, _⟩
 ·exact ⟨[], .cons O1 .nil⟩
 ·have key : ∀ i, i < len → ∃ (b : α), ∃ (cs' : List Value), cs'.length = k ∧ (∀ j u, cs'[j]? = some u → W.cell? ((a.add (i * k)).add j) = some u) ∧ Ag (Av (sto W)) cs' (e0 b) := fun i hi => by
   have h1 := hel i hi
   rw [List.getElem?_eq_getElem (by omega)] at h1
   obtain ⟨cs', h2, h3⟩ := Option.bind_eq_some_iff.1 h1
   obtain ⟨_, h4, h5⟩ := World.cells?_some h2
   obtain ⟨b, hb⟩ := f n cs' _ (by omega) h3
   rw [hc] at h4 h5
   refine ⟨b, cs', h4, fun j u hj => ?_, hb⟩
   rw [h5 j (by have := (List.getElem?_eq_some_iff.1 hj).1; omega)]
   exact hj
  obtain ⟨xs, hxl, hxs⟩ : ∃ xs : List α, xs.length = len ∧ ∀ i (h : i < xs.length), ∃ cs' : List Value, cs'.length = k ∧ (∀ j u, cs'[j]? = some u → W.cell? ((a.add (i * k)).add j) = some u) ∧ Ag (Av (sto W)) cs' (e0 xs[i]) := Nv key
  have cell : ∀ m y j z, (xs.map e0)[m]? = some y → y[j]? = some z → ∃ v, W.cell? ⟨a.block, a.off + m * k + j, none⟩ = some v ∧ Av (sto W) v z := fun m y j z hy hz => by
   rw [List.getElem?_map, Option.map_eq_some_iff] at hy
   obtain ⟨b, hb', rfl⟩ := hy
   obtain ⟨hm', hbe⟩ := List.getElem?_eq_some_iff.1 hb'
   obtain ⟨cs', c1, c2, c3⟩ := hxs m hm'
   rw [hbe] at c3
   obtain ⟨v, v1, v2⟩ := c3.get hz
   refine ⟨v, ?_, v2⟩
   have := c2 j v v1
   have hsp := Me this
   rw [← this]
   congr 1
   have h7 : ((a.add (m * k)).add j).block = a.block ∧ ((a.add (m * k)).add j).off = a.off + m * k + j := by
    unfold Addr.add
    split <;> split <;> simp_all
   generalize (a.add (m * k)).add j = q at *
   cases q
   simp_all
  refine ⟨xs, .cons (.list (b := a.block) (o := a.off) (w := k) (fun m j => (W.cell? ⟨a.block, a.off + m * k + j, none⟩).getD undef) (by simp [hxl]) hl hm (by simp) (fun h0 => ?_) (fun y hy => ?_) (fun q1 q2 _ => absurd (hs q1) (by omega)) (fun m y j z hy hz => ?_) (fun m y j z hy hz => ?_)) .nil⟩
  ·obtain ⟨cs', h1, h2, h3⟩ := hxs 0 (by omega)
   have h4 : W.cell? a = some (cs'[0]'(by omega)) := by
    have := h2 0 _ (List.getElem?_eq_getElem (by omega))
    simpa [Addr.add] using this
   have := Me h4
   cases a
   simp_all
  ·obtain ⟨b, _, rfl⟩ := List.mem_map.1 hy
   exact hlen b
  ·obtain ⟨v, v1, v2⟩ := cell m y j z hy hz
   show W.cell? _ = _
   rw [v1]; rfl
  ·obtain ⟨v, v1, v2⟩ := cell m y j z hy hz
   rw [v1]; exact v2
theorem Ob {t : TypeId} (ht : P.underlying t = some (.int .i64)) (fuel : Nat) (cs : List Value) (x : DataW H × List MemPlace) (h : DataW.trod enc P W base sp hd fuel t cs = some x) : ∃ n : Int, Ag (Av (sto W)) cs (HL n) := by
 obtain ⟨n, rfl, _, hn⟩ := DataW.trod_int ht h
 exact ⟨n, .cons (.int (by rw [EF]; simpa [Lit.wf, IntKind.min, IntKind.max, IntKind.signed, IntKind.bits] using hn)) .nil⟩
theorem M1 {t : TypeId} (ht : P.underlying t = some (.int .i64)) {r : Reach} {b0 : Nat} {v : Value} {d : DataW H} {p : List MemPlace} (hv : Value.okWide P W r b0 t v) (h : DataW.Trod enc P W base sp hd t v d p) : ∃ n : Int, AW (sto W) noS noH v (AK n) := by
 obtain ⟨n, rfl⟩ := okWide_int ht hv
 obtain ⟨fuel, hf⟩ := h
 obtain ⟨m, hm⟩ := Ob ht fuel _ _ hf
 have : Ag (Av (sto W)) [.int .i64 n] (HL m) := hm
 cases this with
 | cons h1 h2 => exact ⟨m, .one (.st h1)⟩
theorem Ud {α : Type} {e0 : α → List SV} {t e : TypeId} {k : Nat} (ht : P.underlying t = some (.slice e)) (hc : P.cellsOf e = k) (hlen : ∀ a, (e0 a).length = k) (hk : 0 < k) {r : Reach} {b0 : Nat} {v : Value} {d : DataW H} {p : List MemPlace} (hv : Value.okWide P W r b0 t v)
  (f : ∀ (n : Nat) (cs : List Value) (y : DataW H × List MemPlace), DataW.trod enc P W base sp hd n e cs = some y → ∃ a : α, Ag (Av (sto W)) cs (e0 a)) (h : DataW.Trod enc P W base sp hd t v d p) (hs : CM = true → k < 2 := by decide) : ∃ xs : List α, AW (sto W) noS noH v (.one (.st (.list (xs.map e0)))) := by
 obtain ⟨a, len, cap, rfl⟩ := okWide_slice ht hv
 obtain ⟨fuel, hf⟩ := h
 obtain ⟨xs, hxs⟩ := M3 ht hc hlen hk (fun n cs y _ hy => f n cs y hy) hf hs
 have : Ag (Av (sto W)) [.slice a len cap] [.list (xs.map e0)] := hxs
 cases this with
 | cons h1 h2 => exact ⟨xs, .one (.st h1)⟩
end
theorem N3 {P : Program} {f : FuncId} {xs : List AV} {b : Bool} (h : AQ P f xs (Ab b)) {σ : Sto} {w : World} {vs : List Value} (hg : CH σ) (hf : Fit σ w) (hv : Ag (AW σ noS noH) vs xs) :
  Calls P f vs.toArray w fun e w' => e = .returned (.bool b) ∧ Below w.heap.size w w' := (h σ w vs hg hf hv).mono fun e w' ⟨v, σ', he, hv, _, _, hb⟩ => by
 rw [DM hv] at he
 exact ⟨he, hb⟩

theorem Q0 {P : Program} {W : World} {x : String × DataW Unit} : ∀ {l : List (String × DataW Unit)} {ps : List MemPlace}, DataW.LaidVars P W l ps → x ∈ l → ∃ q, DataW.LaidVars P W [x] q
 | [], _, _, hx => by simp at hx
 | y :: l, ps, h, hx => by
  obtain ⟨n, d⟩ := y
  obtain ⟨g, t, cs, fuel, p, q, a1, a2, a3, a4, a5, a6⟩ := h
  rcases List.mem_cons.1 hx with rfl | hx
  ·exact ⟨_, g, t, cs, fuel, p, [], a1, a2, a3, a4, rfl, rfl⟩
  ·exact Q0 a5 hx
theorem U7 {P : Program} {W : World} {n : String} {g : Nat} {cs : Array Value} (hg : P.globalNamed n = some g) (h : W.var? P n = some cs) : sto W ⟨g, cs.size, some 0⟩ = some .nilFunc := by
 unfold World.var? at h
 rw [hg] at h
 simp only [Option.bind_some] at h
 show Cr W _ = _
 unfold Cr
 simp only
 cases hb : W.heap[g]? with
 | none => rw [hb] at h; cases h
 | some o =>
  rw [hb] at h
  cases o <;> simp_all
theorem U3 {P : Program} {W : World} {name : String} {g : Nat} {t e : TypeId} {n : Nat} {k : IntKind} {zs : List Int} (hg : P.globalNamed name = some g) (hty : (P.globals[g]?).map (·.type) = some t) (ht : P.underlying t = some (.array n e)) (he : P.underlying e = some (.int k))
  (hce : P.cellsOf e = 1) (hct : P.cellsOf t = n) (hin : ∀ z ∈ zs, inR k z) {ps : List MemPlace} (h : DataW.LaidVars P W [(name, Lib.tabData k zs)] ps) : Mx (sto W) (g, zs.map fun z => .int k z) := by
 obtain ⟨g0, t0, cs0, f0, p0, q0, hg0, ht0, hv0, hd0, _, _⟩ := h
 obtain rfl := Option.some.inj (hg.symm.trans hg0)
 obtain rfl := Option.some.inj (hty.symm.trans ht0)
 have hc := Lib.cells_of_tab ht he hce hct hd0
 have hs : cs0.size = zs.length := by
  have := congrArg List.length hc
  simpa using this
 refine ⟨⟨fun j => (zs[j]?).elim .nilFunc (.int k), fun j a ha => ?_, fun j a ha => ?_⟩, ?_⟩
 ·rw [List.getElem?_map, Option.map_eq_some_iff] at ha
  obtain ⟨z, hz, rfl⟩ := ha
  have h1 := World.var?_cell hg0 hv0 j
  have h2 : cs0[j]? = some (.int k z) := by
   have h3 := congrArg (fun l : List Value => l[j]?) hc
   simpa [hz] using h3
  show Cr W _ = _
  rw [CP rfl, Nat.zero_add, h1, h2]
  simp only [hz, Option.elim]
 ·rw [List.getElem?_map, Option.map_eq_some_iff] at ha
  obtain ⟨z, hz, rfl⟩ := ha
  simp only [hz, Option.elim]
  exact .int (hin z (List.mem_of_getElem? hz))
 ·have := U7 hg0 hv0
  rw [hs] at this
  simpa using this
theorem WO {zs : List Int} (h : zs.all (fun z => decide (0 ≤ z) && decide (z ≤ 18446744073709551615)) = true) : ∀ z ∈ zs, inR .u64 z := fun z hz => by
 have := List.all_eq_true.1 h z hz
 simp only [Bool.and_eq_true, decide_eq_true_eq] at this
 simp [inR, IntKind.min, IntKind.max, IntKind.signed, IntKind.bits]
 omega
theorem UC {W : World} {ps : List MemPlace} (h : DataW.LaidVars Tryz.prog W [("internal/strconv.uint64pow10", Rows.laid_internal_strconv_uint64pow10)] ps) : Mx (sto W) (0, TT) := U3 (k := .u64) (zs := Lib.pow10Tab) (by kernel_rfl) (by kernel_rfl) Tryz.underlying139 Tryz.underlying121 (by kernel_rfl) (by kernel_rfl) (WO (by decide)) h

theorem QH {W : World} {l : List (String × DataW Unit)} (hp : (l.all fun x => true) = true) (hin : ("internal/strconv.uint64pow10", Rows.laid_internal_strconv_uint64pow10) ∈ l) {ps : List MemPlace} (h : DataW.LaidVars Tryz.prog W l ps) : CH (sto W) := by
 obtain ⟨_, h1⟩ := Q0 (x := ("internal/strconv.uint64pow10", Rows.laid_internal_strconv_uint64pow10)) h hin
 intro y hy
 simp only [OU, List.mem_cons, List.not_mem_nil, or_false] at hy
 subst hy
 exact UC h1

section
variable {H : Type} {enc : TypeId × Value → H} {W : World} {sp : Nat → Bool} {hd : Bool} {base : Nat}
set_option maxRecDepth 100000 in
theorem U6 {r : Reach} {b0 : Nat} {v : Value} {d : DataW H} {p : List MemPlace} (hv : Value.okWide Tryz.prog W r b0 38 v) (h : DataW.Trod enc Tryz.prog W base sp hd 38 v d p) : ∃ l : List Int, AW (sto W) noS noH v (EA l) :=
 Ud (k := 1) Tryz.underlying38 (by kernel_rfl) (fun _ => rfl) (by decide) hv (Ob Tryz.underlying3) h
end

end Go.Proofs.YtgepacmabaaohaaGreatDoor
namespace Go.Proofs.YtgepacmabaaohaaGreatDoor.criticalMade
open Go Go.RowKit Go.ChangeShapes Go.WideShapes Go.ChangeAt
set_option linter.unusedVariables false
theorem Vx {W : World} (h : laidMetH Tryz.prog Rows.criticalMadeRow.laid W) : CH (sto W) := by
 rw [MakeChecks.laidMetH_plain _ _ _ (by kernel_rfl)] at h
 obtain ⟨ps, h, _, _⟩ := h
 exact QH (by kernel_rfl) (by simp [Rows.criticalMadeRow]) h
theorem own : ownKnob Tryz.prog.godebug = none := by kernel_rfl
theorem laid : laidOutB Tryz.prog = true := by kernel_rfl
set_option maxRecDepth 100000 in
theorem Uz (H : Type) (enc : TypeId × Value → H) (W : World) (base : Nat) (args : Array Value) (ds gs : List (DataW H)) (before : List MemPlace) (hL : laidMetH Tryz.prog Rows.criticalMadeRow.laid W)
  (hval : ∀ (j : Nat) t v, Tryz.f4.params[j]? = some t → args[j]? = some v → Value.okWide Tryz.prog W .any base t v)
  (hW : DataW.Whole enc Tryz.prog Tryz.f4.params.toList Rows.criticalMadeSpec.vars false W args.toList ds gs before) :
  Calls Tryz.prog 4 args W fun e W' => ∃ v, e = .returned v ∧ Rows.criticalMadeSpec.post enc Tryz.prog Tryz.f4 false true false false W args v W' := by
 have hG := Vx hL
 obtain ⟨p, q, hA0, hV, rfl, hfz, hnd⟩ := id hW
 obtain ⟨rfl, rfl⟩ := trodVars_none hV
 have hA : DataW.TrodAll enc Tryz.prog W 0 (fun _ => true) true Tryz.f4.params.toList args.toList ds p := hA0
 rw [Tryz.params4] at hA hval
 obtain ⟨v0, v1, v2, v3, d0, d1, d2, d3, p0, p1, p2, p3, hargs, rfl, rfl, h0, h1, h2, h3⟩ := trodAll_four hA
 obtain rfl : args = #[v0, v1, v2, v3] := by cases args; simp_all
 obtain ⟨l, r0⟩ := U6 (hval 0 38 v0 rfl rfl) h0
 obtain ⟨m1, r1⟩ := M1 Tryz.underlying3 (hval 1 3 v1 rfl rfl) h1
 obtain ⟨m2, r2⟩ := M1 Tryz.underlying3 (hval 2 3 v2 rfl rfl) h2
 obtain ⟨m3, r3⟩ := M1 Tryz.underlying3 (hval 3 3 v3 rfl rfl) h3
 have k0 := PU r0.known
 refine (N3 (KO l m1 m2 m3 k0.2 k0.1 r1.known r2.known r3.known) hG (VN W) (vs := [v0, v1, v2, v3]) (.cons r0 (.cons r1 (.cons r2 (.cons r3 .nil))))).mono fun e W' ⟨he, hb⟩ => ⟨_, he, ?_⟩
 exact Tn hW rfl rfl Tryz.underlying4 rfl rfl rfl laid (by kernel_rfl) hb
theorem Ts (os : Os) (args : Array Value) : laidMetH Tryz.prog Rows.criticalMadeRow.laid ((World.doorLaid Tryz.prog 400 os).forCall (fun _ _ => 0) ⟨#[], args, []⟩).memory :=
 laidMetH_of_parts3 (fuel := 8) (laidMet_of_run' 8 (by kernel_rfl) (by kernel_rfl)) (by kernel_rfl) (by kernel_rfl)
set_option maxRecDepth 100000 in
theorem WD (os : Os) (started : os.Started) (H : Type) (enc : TypeId × Value → H) :
  ReturnsInHanded {} Tryz.checked os 4 .any (fun w args => (Rows.criticalMadeSpec.pre enc Tryz.prog Tryz.f4 [] false w args ∧ laidMetH Tryz.prog Rows.criticalMadeRow.laid w) ∧ sizedMet enc Tryz.prog Tryz.f4 (OpenSpec.ofChange Rows.criticalMadeSpec) false w args)
   (Rows.criticalMadeSpec.post enc Tryz.prog Tryz.f4 false true false false) := by
 refine returnsInHanded_of_change_and (C := Tryz.checked) (X := fun w _ => laidMetH Tryz.prog Rows.criticalMadeRow.laid w) (fun _ _ _ hh h => h.of_heap hh) own started (by kernel_rfl) Tryz.func4
  (ChangeSpec.witness_shaped (enc := enc) (C := Tryz.checked) (os := os) (X := fun w _ => laidMetH Tryz.prog Rows.criticalMadeRow.laid w) false (World.doorLaid Tryz.prog 400 os) #[.slice none 0 0, .int .i64 0, .int .i64 0, .int .i64 0] 8 rfl (World.shaped_of_RefB (by kernel_rfl) (by kernel_rfl)) (by kernel_rfl) (by kernel_rfl) (by kernel_rfl) (Ts os _)) ?_
 intro W base args ds gs before hval hW _ _ hL _
 exact Uz H enc W base args ds gs before hL hval hW
theorem SJ : Rows.CriticalMadeSaid :=
 OpenClaim.holds_of_wide 4 Tryz.f4 rfl rfl rfl rfl rfl rfl rfl ⟨rfl, rfl, rfl, rfl, rfl⟩ rfl rfl rfl rfl rfl (by kernel_rfl) Tryz.func4 (by kernel_rfl)
  (of_decide_eq_true (by kernel_rfl)) (by unfold Func.isWrapper; first | (rw [if_pos (by decide +kernel)]; kernel_rfl) | (rw [if_neg (by decide +kernel)]; exact ⟨rfl, rfl⟩))
  (fun os started H enc _ => WD os started H enc)
theorem TO : (Tryz.f4.params.toList.all fun t => !Tryz.prog.wantsStandIn t) = true := by kernel_rfl
theorem proved : Rows.CriticalMadeCardSaid :=
 Claim7.holds_tied_plain_at .later [] [.data, .data, .data] true Rows.criticalMadeCard.stood.harness Rows.criticalMadeCard.stood.looks
  SJ (fun _ h => by cases h) (by kernel_rfl) (fun _ h => by cases h) criticalMade_row_tie rfl ⟨rfl, rfl⟩ (by kernel_rfl) rfl
  (fun f fn hf hfn => by
   obtain rfl : f = 4 := Option.some.inj ((show Tryz.prog.funcNamed "metaprune/metaprunelaw.CriticalMade" = some 4 by kernel_rfl).symm.trans hf) |>.symm
   obtain rfl : fn = Tryz.f4 := (Option.some.inj (Tryz.func4.symm.trans hfn)).symm
   exact ⟨by kernel_rfl, fun j t ht => by
    have h1 := List.all_eq_true.1 TO t (by rw [Array.mem_toList_iff]; exact Array.mem_of_getElem? ht)
    have h2 : Tryz.prog.wantsStandIn t = false := by simpa using h1
    exact h2⟩)
  (by kernel_rfl)

end Go.Proofs.YtgepacmabaaohaaGreatDoor.criticalMade
