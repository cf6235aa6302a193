/-
  Proved: a term is above, by paths, what it becomes when a knot gives way to one of those below it: the law TopEmbed returns true. Conditions: none.
-/
import Derived.Test.YtlgpchphdhdllaaToE8
import Derived.Test.YtlgpchphdhdllaaRows
import Derived.ProofKit
import Derived.OpenShut
import Derived.JoinedCond
import Derived.Deep.Slices
namespace Go.Proofs.Ytlgpchphdhdllaa
open Go Go.RowKit
set_option linter.unusedVariables false
set_option linter.unusedSimpArgs false
set_option maxHeartbeats 800000
def CR (c n : Int) : Int := (if c < 0 then -(c + 1) else c) % n
theorem BF (c n : Int) (hn : 1 ≤ n) : 0 ≤ CR c n ∧ CR c n < n := ⟨Int.emod_nonneg _ (by omega), Int.emod_lt_of_pos _ (by omega)⟩
theorem Fh {x n : Int} (hx : 0 ≤ x) (hn : 1 ≤ n) : x.tmod n = x % n ∧ 0 ≤ x % n ∧ x % n < n ∧ x % n ≤ x := by
 rw [Int.tmod_eq_emod_of_nonneg hx]
 refine ⟨rfl, Int.emod_nonneg _ (by omega), Int.emod_lt_of_pos _ (by omega), ?_⟩
 by_cases h : x < n
 ·rw [Int.emod_eq_of_lt hx h]; exact Int.le_refl _
 ·have := Int.emod_lt_of_pos x (show 0 < n by omega); omega
theorem D9 {x n : Int} (hx : 0 ≤ x) (hn : 1 ≤ n) : x.tdiv n = x / n ∧ 0 ≤ x / n ∧ x / n ≤ x := by
 rw [Int.tdiv_eq_ediv_of_nonneg hx]
 exact ⟨rfl, Int.ediv_nonneg hx (by omega), Int.ediv_le_self _ hx⟩
theorem Dg (c n : Int) (hc : inR .i64 c) (hn : 1 ≤ n) : AW Try.prog 5 [Ab c, Ab n] (Ab (CR c n)) := by
 rw [Cp] at hc
 refine NZ.ac fun C hC => ?_
 unfold JL
 repeat' with_reducible first | refine W ?_ | refine Z0 ?_ | ((first | refine Wo fun K hK => ?_ | refine Wq ?_ | refine Wr ?_); (try simp only [go_sem, fN, seval, eT, iR]); (repeat refine Ai ?_); (try (refine hK _ ?_; clear hK K)))
 with_reducible refine Wp ?_
 simp only [go_sem, fN, seval, true_implies, false_implies, implies_true, dT, dF, nL]
 (try with_reducible refine iC ?_)
 refine ⟨fun h0 => ?_, fun h0 => ?_⟩
 ·have h1 := Fh (x := 0 - (c + 1)) (n := n) (by omega) hn
  repeat' with_reducible first | refine W ?_ | refine Z0 ?_ | ((first | refine Wo fun K hK => ?_ | refine Wq ?_ | refine Wr ?_); (try simp only [go_sem, fN, seval, eT, iR, h1.1]); (repeat refine Ai ?_); (try (refine hK _ ?_; clear hK K)))
  simp only [go_sem, fN, seval, AZ, AS.result, AB, AF, AP]
  unfold CR
  rw [if_pos h0]
  congr 5
  omega
 ·have h1 := Fh (x := c) (n := n) (by omega) hn
  repeat' with_reducible first | refine W ?_ | refine Z0 ?_ | ((first | refine Wo fun K hK => ?_ | refine Wq ?_ | refine Wr ?_); (try simp only [go_sem, fN, seval, eT, iR, h1.1]); (repeat refine Ai ?_); (try (refine hK _ ?_; clear hK K)))
  simp only [go_sem, fN, seval, AZ, AS.result, AB, AF, AP]
  unfold CR
  rw [if_neg h0]
def MH (l : List Int) (i : Nat) : Int := if l.length = 0 then i * 31 else CR (l.getD (i % l.length) 0) 1000003 + ((i / l.length : Nat) : Int) * 7919
theorem MN (l : List Int) (i : Nat) : 0 ≤ MH l i ∧ MH l i ≤ 1000003 + i * 7919 := by
 unfold MH
 split
 ·omega
 ·have := BF (l.getD (i % l.length) 0) 1000003 (by omega)
  have h2 : i / l.length ≤ i := Nat.div_le_self _ _
  generalize i / l.length = q at *
  omega
theorem RT (l : List Int) (i : Nat) (hi : i ≤ 1000000) (hl : ∀ n ∈ l, inR .i64 n) (hm : l.length ≤ maxLen) : AW Try.prog 21 [EK l, Ab i] (Ab (MH l i)) := by
 rw [E5] at hm
 refine PO.ac fun C hC => ?_
 unfold KP
 repeat' with_reducible first | refine W ?_ | refine Z0 ?_ | ((first | refine Wo fun K hK => ?_ | refine Wq ?_ | refine Wr ?_); (try simp only [go_sem, fN, seval, eT, iR]); (repeat refine Ai ?_); (try (refine hK _ ?_; clear hK K)))
 with_reducible refine Wp ?_
 simp only [go_sem, fN, seval, true_implies, false_implies, implies_true, dT, dF, nL]
 (try with_reducible refine iC ?_)
 refine ⟨fun h0 => ?_, fun h0 => ?_⟩
 ·repeat' with_reducible first | refine W ?_ | refine Z0 ?_ | ((first | refine Wo fun K hK => ?_ | refine Wq ?_ | refine Wr ?_); (try simp only [go_sem, fN, seval, eT, iR]); (repeat refine Ai ?_); (try (refine hK _ ?_; clear hK K)))
  simp only [go_sem, fN, seval, AZ, AS.result, AB, AF, AP]
  unfold MH
  rw [if_pos (by omega)]
 ·have h1 := Fh (x := (i : Int)) (n := (l.length : Int)) (by omega) (by omega)
  have h2 := D9 (x := (i : Int)) (n := (l.length : Int)) (by omega) (by omega)
  have hlt : i % l.length < l.length := Nat.mod_lt _ (by omega)
  obtain ⟨a, ha⟩ := Ar hlt
  have e1 : ((i : Int) % (l.length : Int)) = ((i % l.length : Nat) : Int) := by omega
  have e2 : ((i : Int) / (l.length : Int)) = ((i / l.length : Nat) : Int) := by omega
  have h3 : i / l.length ≤ i := Nat.div_le_self _ _
  repeat' with_reducible first | refine W ?_ | refine Z0 ?_ | ((first | refine Wo fun K hK => ?_ | refine Wq ?_ | refine Wr ?_); (try simp only [go_sem, fN, seval, eT, iR, h1.1, h2.1, e1, e2, ha]); (repeat refine Ai ?_); (try (refine hK _ ?_; clear hK K)))
  refine ⟨_, Dg a 1000003 (hl a (Ae ha)) (by omega), ?_⟩
  have hp := BF a 1000003 (by omega)
  repeat' with_reducible first | refine W ?_ | refine Z0 ?_ | ((first | refine Wo fun K hK => ?_ | refine Wq ?_ | refine Wr ?_); (try simp only [go_sem, fN, seval, eT, iR, h1.1, h2.1, e1, e2]); (repeat refine Ai ?_); (try (refine hK _ ?_; clear hK K)))
  simp only [go_sem, fN, seval, AZ, AS.result, AB, AF, AP]
  unfold MH
  rw [if_neg (by omega), List.getD_eq_getElem?_getD, ha]
  rfl
theorem J5 (s : ByteArray) : AW Try.prog 22 [CO s] (aTm (.mk s [])) := by
 refine N4.ac fun C hC => ?_
 unfold JV
 repeat' with_reducible first | refine W ?_ | refine Z0 ?_ | ((first | refine Wo fun K hK => ?_ | refine Wq ?_ | refine Wr ?_); (try simp only [go_sem, fN, seval, eT, iR]); (repeat refine Ai ?_); (try (refine hK _ ?_; clear hK K)))
 simp only [go_sem, fN, seval, AZ, AS.result, AB, AF, AP]
 rfl
theorem HI {n : ByteArray} {xs : List Tm} (h1 : BN n = true) (h2 : AU n = false) (hx : ∀ x ∈ xs, x.chk = 0) : (Tm.mk n xs).chk = 0 := by
 have h0 : Bn (Tm.mk n xs) = 0 := by
  unfold Bn
  rw [Tm.name_mk, if_pos h1, if_neg (by rw [h2]; simp)]
 rw [Tm.chk_eq, if_pos h0, Tm.args_mk]
 induction xs with
 | nil => rfl
 | cons x xs ih =>
  simp only [Tm.chkL]
  rw [if_pos (hx x (by simp))]
  refine ih (fun y hy => hx y (by simp [hy])) ?_
  unfold Bn
  rw [Tm.name_mk, if_pos h1, if_neg (by rw [h2]; simp)]
def DQ (l : List Int) (at_ : Nat) (most vars : Int) (t : Tm) : Prop :=
 AW Try.prog 12 [EK l, Ab at_, Ab most, Ab vars] (.tup [aTm t, Ab ((at_ + t.size : Nat) : Int)])
abbrev CC : List ByteArray := [⟨#[88]⟩, ⟨#[89]⟩, ⟨#[90]⟩, ⟨#[85]⟩, ⟨#[97]⟩, ⟨#[98]⟩, ⟨#[99]⟩, ⟨#[102]⟩, ⟨#[103]⟩, ⟨#[104]⟩, ⟨#[107]⟩]
def HG (vars : Int) (t : Tm) : Prop := ∀ k ∈ t.knots, k.name ∈ CC ∧ (vars = 1 → AU k.name = true → k.name = ⟨#[88]⟩)
theorem J4 {k : Tm} : ∀ {xs : List Tm}, k ∈ Tm.knotsL xs → ∃ x ∈ xs, k ∈ x.knots
 | [], h => by cases h
 | x :: xs, h => by
  rw [Tm.knotsL, List.mem_append] at h
  rcases h with h | h
  ·exact ⟨x, by simp, h⟩
  ·obtain ⟨y, hy, hk⟩ := J4 h
   exact ⟨y, by simp [hy], hk⟩
theorem DE {vars : Int} {n : ByteArray} {xs : List Tm} (hn : n ∈ CC) (hv : AU n = true → vars = 1 → n = ⟨#[88]⟩) (hx : ∀ x ∈ xs, HG vars x) : HG vars (.mk n xs) := by
 intro k hk
 rw [Tm.knots] at hk
 rcases List.mem_cons.1 hk with rfl | hk
 ·exact ⟨hn, fun h1 h2 => hv h2 h1⟩
 ·obtain ⟨x, hx', hk⟩ := J4 hk
  exact hx x hx' k hk
mutual
def Tm.lvs : Tm → Nat
 | .mk _ xs => (if xs.isEmpty then 1 else 0) + Tm.lvsL xs
def Tm.lvsL : List Tm → Nat
 | [] => 0
 | t :: ts => t.lvs + Tm.lvsL ts
end
def FO (m : Nat) : Nat := if m < 3 then 1 else if m < 6 then 2 else if m < 10 then 4 else m
theorem I8 (m : Nat) : 1 ≤ FO m := by unfold FO; split <;> (try split) <;> (try split) <;> omega
theorem Iz {m : Nat} (h : 3 ≤ m) : FO (m - 1) ≤ FO m := by unfold FO; (repeat' split) <;> omega
theorem NQ {m : Nat} (h : 3 ≤ m) : FO (m / 2) + FO (m / 2) ≤ FO m := by unfold FO; (repeat' split) <;> omega
def NoU (t : Tm) : Prop := ∀ k ∈ t.knots, k.name ≠ ⟨#[85]⟩
theorem HU {n : ByteArray} {xs : List Tm} (hn : n ≠ ⟨#[85]⟩) (hx : ∀ x ∈ xs, NoU x) : NoU (.mk n xs) := by
 intro k hk
 rw [Tm.knots] at hk
 rcases List.mem_cons.1 hk with rfl | hk
 ·exact hn
 ·obtain ⟨x, hx', hk⟩ := J4 hk
  exact hx x hx' k hk
theorem Q3 (l : List Int) (hl : ∀ n ∈ l, inR .i64 n) (hm : l.length ≤ maxLen) (vars : Int) (hv : 1 ≤ vars ∧ vars ≤ 4) : ∀ (most : Nat) (at_ : Nat), most ≤ 1000 → at_ + 2 * most ≤ 900000 → ∃ t : Tm, DQ l at_ most vars t ∧ t.size + 1 ≤ max 2 (2 * most) ∧ t.chk = 0 ∧ HG vars t ∧ (t.lvs ≤ FO most ∧ (vars = 3 → NoU t)) := by
 intro most
 induction most using Nat.strongRecOn with
 | _ most ih =>
 intro at_ h1000 hat
 have hraw := RT l at_ (by omega) hl hm
 have hr := MN l at_
 generalize MH l at_ = c at hraw hr
 have d5 := D9 (x := c) (n := 5) (by omega) (by omega)
 have d15 := D9 (x := c) (n := 15) (by omega) (by omega)
 have p5 := Dg c 5 (by rw [Cp]; omega) (by omega)
 have q5 := BF c 5 (by omega)
 have p53 := Dg (c / 5) 3 (by rw [Cp]; omega) (by omega)
 have q53 := BF (c / 5) 3 (by omega)
 have p54 := Dg (c / 5) 4 (by rw [Cp]; omega) (by omega)
 have q54 := BF (c / 5) 4 (by omega)
 have p15 := Dg (c / 15) vars (by rw [Cp]; omega) (by omega)
 have q15 := BF (c / 15) vars (by omega)
 have p153 := Dg (c / 15) 3 (by rw [Cp]; omega) (by omega)
 have q153 := BF (c / 15) 3 (by omega)
 generalize CR c 5 = x5 at p5 q5
 generalize CR (c / 5) 3 = x53 at p53 q53
 generalize CR (c / 5) 4 = x54 at p54 q54
 generalize CR (c / 15) vars = x15 at p15 q15
 generalize CR (c / 15) 3 = x153 at p153 q153
 have hv0 : vars > 0 := by omega
 by_cases hleaf : (most : Int) < 3 ∨ x5 < 2
 ·by_cases hvar : 0 < x53
  ·obtain ⟨nm, hnm, hch, hX0, hX, hXU⟩ : ∃ nm, [([.str ⟨#[88]⟩] : List SV), [.str ⟨#[89]⟩], [.str ⟨#[90]⟩], [.str ⟨#[85]⟩]][x15.toNat]? = some [.str nm] ∧ (Tm.mk nm []).chk = 0 ∧ nm ∈ CC ∧ (vars = 1 → nm = ⟨#[88]⟩) ∧ (vars = 3 → nm ≠ ⟨#[85]⟩) := by
    have : x15.toNat = 0 ∨ x15.toNat = 1 ∨ x15.toNat = 2 ∨ x15.toNat = 3 := by omega
    rcases this with h | h | h | h <;> rw [h] <;> first | exact ⟨_, rfl, by decide, by simp [CC], fun _ => rfl, fun _ => by decide⟩ | exact ⟨_, rfl, by decide, by simp [CC], fun h1 => by omega, fun _ => by decide⟩ | exact ⟨_, rfl, by decide, by simp [CC], fun h1 => by omega, fun h1 => by omega⟩
   refine ⟨.mk nm [], ?_, by simp only [Tm.size, Tm.sizes]; omega, hch, DE hX0 (fun _ h1 => hX h1) (by simp), (by have := I8 most; simp [Tm.lvs, Tm.lvsL]; omega), fun h3 => HU (hXU h3) (by simp)⟩
   unfold DQ
   refine Dq.ac fun C hC => ?_
   unfold DC
   repeat' with_reducible first | refine W ?_ | refine Z0 ?_ | ((first | refine Wo fun K hK => ?_ | refine Wq ?_ | refine Wr ?_); (try simp only [go_sem, fN, seval, eT, iR]); (repeat refine Ai ?_); (try (refine hK _ ?_; clear hK K)))
   refine ⟨_, hraw, ?_⟩
   by_cases hm3 : (most : Int) < 3
   ·repeat' with_reducible first | refine W ?_ | refine Z0 ?_ | ((first | refine Wo fun K hK => ?_ | refine Wq ?_ | refine Wr ?_); (try simp only [go_sem, fN, seval, eT, iR, hm3]); (repeat refine Ai ?_); (try (refine hK _ ?_; clear hK K)))
    with_reducible refine Wp ?_
    simp only [go_sem, fN, seval, true_implies, false_implies, implies_true, dT, dF, nL]
    (try with_reducible refine iC ?_)
    repeat' with_reducible first | refine W ?_ | refine Z0 ?_ | ((first | refine Wo fun K hK => ?_ | refine Wq ?_ | refine Wr ?_); (try simp only [go_sem, fN, seval, eT, iR, hv0, d5.1]); (repeat refine Ai ?_); (try (refine hK _ ?_; clear hK K)))
    refine ⟨_, p53, ?_⟩
    repeat' with_reducible first | refine W ?_ | refine Z0 ?_ | ((first | refine Wo fun K hK => ?_ | refine Wq ?_ | refine Wr ?_); (try simp only [go_sem, fN, seval, eT, iR, hv0, d5.1, hvar]); (repeat refine Ai ?_); (try (refine hK _ ?_; clear hK K)))
    with_reducible refine Wp ?_
    simp only [go_sem, fN, seval, true_implies, false_implies, implies_true, dT, dF, nL]
    (try with_reducible refine iC ?_)
    repeat' with_reducible first | refine W ?_ | refine Z0 ?_ | ((first | refine Wo fun K hK => ?_ | refine Wq ?_ | refine Wr ?_); (try simp only [go_sem, fN, seval, eT, iR, d15.1]); (repeat refine Ai ?_); (try (refine hK _ ?_; clear hK K)))
    refine ⟨_, p15, ?_⟩
    repeat' with_reducible first | refine W ?_ | refine Z0 ?_ | ((first | refine Wo fun K hK => ?_ | refine Wq ?_ | refine Wr ?_); (try simp only [go_sem, fN, seval, eT, iR, hnm, q15.1]); (repeat refine Ai ?_); (try (refine hK _ ?_; clear hK K)))
    refine ⟨_, J5 nm, ?_⟩
    repeat' with_reducible first | refine W ?_ | refine Z0 ?_ | ((first | refine Wo fun K hK => ?_ | refine Wq ?_ | refine Wr ?_); (try simp only [go_sem, fN, seval, eT, iR]); (repeat refine Ai ?_); (try (refine hK _ ?_; clear hK K)))
    simp only [go_sem, fN, seval, AZ, AS.result, AB, AF, AP]
    simp only [AV.tup.injEq, AV.agg.injEq, AV.one.injEq, AC.st.injEq, SV.int.injEq, SV.str.injEq, SV.bool.injEq, SV.list.injEq, List.cons.injEq, Option.some.injEq, true_and, and_true, eq_self, Ac, Tm.args_mk, Tm.name_mk, List.map_cons, List.map_nil, List.map_append, Tm.size, Tm.sizes]
    omega
   ·have h5 : x5 < 2 := by omega
    repeat' (first | (with_reducible first | refine W ?_ | refine Z0 ?_ | ((first | refine Wo fun K hK => ?_ | refine Wq ?_ | refine Wr ?_); (try simp only [go_sem, fN, seval, eT, iR, hm3, h5]); (repeat refine Ai ?_); (try (refine hK _ ?_; clear hK K)))) | refine Cg _ (p5) ?_)
    with_reducible refine Wp ?_
    simp only [go_sem, fN, seval, true_implies, false_implies, implies_true, dT, dF, nL]
    (try with_reducible refine iC ?_)
    repeat' with_reducible first | refine W ?_ | refine Z0 ?_ | ((first | refine Wo fun K hK => ?_ | refine Wq ?_ | refine Wr ?_); (try simp only [go_sem, fN, seval, eT, iR, hv0, d5.1]); (repeat refine Ai ?_); (try (refine hK _ ?_; clear hK K)))
    refine ⟨_, p53, ?_⟩
    repeat' with_reducible first | refine W ?_ | refine Z0 ?_ | ((first | refine Wo fun K hK => ?_ | refine Wq ?_ | refine Wr ?_); (try simp only [go_sem, fN, seval, eT, iR, hv0, d5.1, hvar]); (repeat refine Ai ?_); (try (refine hK _ ?_; clear hK K)))
    with_reducible refine Wp ?_
    simp only [go_sem, fN, seval, true_implies, false_implies, implies_true, dT, dF, nL]
    (try with_reducible refine iC ?_)
    repeat' with_reducible first | refine W ?_ | refine Z0 ?_ | ((first | refine Wo fun K hK => ?_ | refine Wq ?_ | refine Wr ?_); (try simp only [go_sem, fN, seval, eT, iR, d15.1]); (repeat refine Ai ?_); (try (refine hK _ ?_; clear hK K)))
    refine ⟨_, p15, ?_⟩
    repeat' with_reducible first | refine W ?_ | refine Z0 ?_ | ((first | refine Wo fun K hK => ?_ | refine Wq ?_ | refine Wr ?_); (try simp only [go_sem, fN, seval, eT, iR, hnm, q15.1]); (repeat refine Ai ?_); (try (refine hK _ ?_; clear hK K)))
    refine ⟨_, J5 nm, ?_⟩
    repeat' with_reducible first | refine W ?_ | refine Z0 ?_ | ((first | refine Wo fun K hK => ?_ | refine Wq ?_ | refine Wr ?_); (try simp only [go_sem, fN, seval, eT, iR]); (repeat refine Ai ?_); (try (refine hK _ ?_; clear hK K)))
    simp only [go_sem, fN, seval, AZ, AS.result, AB, AF, AP]
    simp only [AV.tup.injEq, AV.agg.injEq, AV.one.injEq, AC.st.injEq, SV.int.injEq, SV.str.injEq, SV.bool.injEq, SV.list.injEq, List.cons.injEq, Option.some.injEq, true_and, and_true, eq_self, Ac, Tm.args_mk, Tm.name_mk, List.map_cons, List.map_nil, List.map_append, Tm.size, Tm.sizes]
    omega
  ·obtain ⟨nm, hnm, hch, hX0, hX⟩ : ∃ nm, [([.str ⟨#[97]⟩] : List SV), [.str ⟨#[98]⟩], [.str ⟨#[99]⟩]][x153.toNat]? = some [.str nm] ∧ (Tm.mk nm []).chk = 0 ∧ nm ∈ CC ∧ AU nm = false := by
    have : x153.toNat = 0 ∨ x153.toNat = 1 ∨ x153.toNat = 2 := by omega
    rcases this with h | h | h <;> rw [h] <;> exact ⟨_, rfl, by decide, by simp [CC], by decide⟩
   refine ⟨.mk nm [], ?_, by simp only [Tm.size, Tm.sizes]; omega, hch, DE hX0 (fun h => by rw [hX] at h; cases h) (by simp), (by have := I8 most; simp [Tm.lvs, Tm.lvsL]; omega), fun h3 => HU (fun e => by rw [e] at hX; exact absurd hX (by decide)) (by simp)⟩
   unfold DQ
   refine Dq.ac fun C hC => ?_
   unfold DC
   repeat' with_reducible first | refine W ?_ | refine Z0 ?_ | ((first | refine Wo fun K hK => ?_ | refine Wq ?_ | refine Wr ?_); (try simp only [go_sem, fN, seval, eT, iR]); (repeat refine Ai ?_); (try (refine hK _ ?_; clear hK K)))
   refine ⟨_, hraw, ?_⟩
   by_cases hm3 : (most : Int) < 3
   ·repeat' with_reducible first | refine W ?_ | refine Z0 ?_ | ((first | refine Wo fun K hK => ?_ | refine Wq ?_ | refine Wr ?_); (try simp only [go_sem, fN, seval, eT, iR, hm3]); (repeat refine Ai ?_); (try (refine hK _ ?_; clear hK K)))
    with_reducible refine Wp ?_
    simp only [go_sem, fN, seval, true_implies, false_implies, implies_true, dT, dF, nL]
    (try with_reducible refine iC ?_)
    repeat' with_reducible first | refine W ?_ | refine Z0 ?_ | ((first | refine Wo fun K hK => ?_ | refine Wq ?_ | refine Wr ?_); (try simp only [go_sem, fN, seval, eT, iR, hv0, d5.1]); (repeat refine Ai ?_); (try (refine hK _ ?_; clear hK K)))
    refine ⟨_, p53, ?_⟩
    repeat' with_reducible first | refine W ?_ | refine Z0 ?_ | ((first | refine Wo fun K hK => ?_ | refine Wq ?_ | refine Wr ?_); (try simp only [go_sem, fN, seval, eT, iR, hv0, d5.1, hvar]); (repeat refine Ai ?_); (try (refine hK _ ?_; clear hK K)))
    with_reducible refine Wp ?_
    simp only [go_sem, fN, seval, true_implies, false_implies, implies_true, dT, dF, nL]
    (try with_reducible refine iC ?_)
    repeat' with_reducible first | refine W ?_ | refine Z0 ?_ | ((first | refine Wo fun K hK => ?_ | refine Wq ?_ | refine Wr ?_); (try simp only [go_sem, fN, seval, eT, iR, d15.1]); (repeat refine Ai ?_); (try (refine hK _ ?_; clear hK K)))
    refine ⟨_, p153, ?_⟩
    repeat' with_reducible first | refine W ?_ | refine Z0 ?_ | ((first | refine Wo fun K hK => ?_ | refine Wq ?_ | refine Wr ?_); (try simp only [go_sem, fN, seval, eT, iR, hnm, q153.1]); (repeat refine Ai ?_); (try (refine hK _ ?_; clear hK K)))
    refine ⟨_, J5 nm, ?_⟩
    repeat' with_reducible first | refine W ?_ | refine Z0 ?_ | ((first | refine Wo fun K hK => ?_ | refine Wq ?_ | refine Wr ?_); (try simp only [go_sem, fN, seval, eT, iR]); (repeat refine Ai ?_); (try (refine hK _ ?_; clear hK K)))
    simp only [go_sem, fN, seval, AZ, AS.result, AB, AF, AP]
    simp only [AV.tup.injEq, AV.agg.injEq, AV.one.injEq, AC.st.injEq, SV.int.injEq, SV.str.injEq, SV.bool.injEq, SV.list.injEq, List.cons.injEq, Option.some.injEq, true_and, and_true, eq_self, Ac, Tm.args_mk, Tm.name_mk, List.map_cons, List.map_nil, List.map_append, Tm.size, Tm.sizes]
    omega
   ·have h5 : x5 < 2 := by omega
    repeat' (first | (with_reducible first | refine W ?_ | refine Z0 ?_ | ((first | refine Wo fun K hK => ?_ | refine Wq ?_ | refine Wr ?_); (try simp only [go_sem, fN, seval, eT, iR, hm3, h5]); (repeat refine Ai ?_); (try (refine hK _ ?_; clear hK K)))) | refine Cg _ (p5) ?_)
    with_reducible refine Wp ?_
    simp only [go_sem, fN, seval, true_implies, false_implies, implies_true, dT, dF, nL]
    (try with_reducible refine iC ?_)
    repeat' with_reducible first | refine W ?_ | refine Z0 ?_ | ((first | refine Wo fun K hK => ?_ | refine Wq ?_ | refine Wr ?_); (try simp only [go_sem, fN, seval, eT, iR, hv0, d5.1]); (repeat refine Ai ?_); (try (refine hK _ ?_; clear hK K)))
    refine ⟨_, p53, ?_⟩
    repeat' with_reducible first | refine W ?_ | refine Z0 ?_ | ((first | refine Wo fun K hK => ?_ | refine Wq ?_ | refine Wr ?_); (try simp only [go_sem, fN, seval, eT, iR, hv0, d5.1, hvar]); (repeat refine Ai ?_); (try (refine hK _ ?_; clear hK K)))
    with_reducible refine Wp ?_
    simp only [go_sem, fN, seval, true_implies, false_implies, implies_true, dT, dF, nL]
    (try with_reducible refine iC ?_)
    repeat' with_reducible first | refine W ?_ | refine Z0 ?_ | ((first | refine Wo fun K hK => ?_ | refine Wq ?_ | refine Wr ?_); (try simp only [go_sem, fN, seval, eT, iR, d15.1]); (repeat refine Ai ?_); (try (refine hK _ ?_; clear hK K)))
    refine ⟨_, p153, ?_⟩
    repeat' with_reducible first | refine W ?_ | refine Z0 ?_ | ((first | refine Wo fun K hK => ?_ | refine Wq ?_ | refine Wr ?_); (try simp only [go_sem, fN, seval, eT, iR, hnm, q153.1]); (repeat refine Ai ?_); (try (refine hK _ ?_; clear hK K)))
    refine ⟨_, J5 nm, ?_⟩
    repeat' with_reducible first | refine W ?_ | refine Z0 ?_ | ((first | refine Wo fun K hK => ?_ | refine Wq ?_ | refine Wr ?_); (try simp only [go_sem, fN, seval, eT, iR]); (repeat refine Ai ?_); (try (refine hK _ ?_; clear hK K)))
    simp only [go_sem, fN, seval, AZ, AS.result, AB, AF, AP]
    simp only [AV.tup.injEq, AV.agg.injEq, AV.one.injEq, AC.st.injEq, SV.int.injEq, SV.str.injEq, SV.bool.injEq, SV.list.injEq, List.cons.injEq, Option.some.injEq, true_and, and_true, eq_self, Ac, Tm.args_mk, Tm.name_mk, List.map_cons, List.map_nil, List.map_append, Tm.size, Tm.sizes]
    omega
 ·have hm3 : ¬ (most : Int) < 3 := by omega
  have h5 : ¬ x5 < 2 := by omega
  by_cases h0 : x54 = 0
  ·obtain ⟨t, ht, hs, hc1, hX1, hL1, hU1⟩ := ih (most - 1) (by omega) (at_ + 1) (by omega) (by omega)
   unfold DQ at ht
   rw [show (((at_ + 1 : Nat) : Int)) = (at_ : Int) + 1 by omega, show (((most - 1 : Nat) : Int)) = (most : Int) - 1 by omega] at ht
   refine ⟨.mk ⟨#[104]⟩ [t], ?_, by simp only [Tm.size, Tm.sizes]; omega, HI (by decide) (by decide) (by simp [hc1]), DE (by simp [CC]) (fun h => absurd h (by decide)) (by simp [hX1]), (by have := Iz (m := most) (by omega); simp [Tm.lvs, Tm.lvsL]; omega), fun h3 => HU (by decide) (by simp [hU1 h3])⟩
   unfold DQ
   subst h0
   refine Dq.ac fun C hC => ?_
   unfold DC
   repeat' with_reducible first | refine W ?_ | refine Z0 ?_ | ((first | refine Wo fun K hK => ?_ | refine Wq ?_ | refine Wr ?_); (try simp only [go_sem, fN, seval, eT, iR]); (repeat refine Ai ?_); (try (refine hK _ ?_; clear hK K)))
   refine ⟨_, hraw, ?_⟩
   repeat' with_reducible first | refine W ?_ | refine Z0 ?_ | ((first | refine Wo fun K hK => ?_ | refine Wq ?_ | refine Wr ?_); (try simp only [go_sem, fN, seval, eT, iR, hm3]); (repeat refine Ai ?_); (try (refine hK _ ?_; clear hK K)))
   refine ⟨_, p5, ?_⟩
   repeat' with_reducible first | refine W ?_ | refine Z0 ?_ | ((first | refine Wo fun K hK => ?_ | refine Wq ?_ | refine Wr ?_); (try simp only [go_sem, fN, seval, eT, iR, h5]); (repeat refine Ai ?_); (try (refine hK _ ?_; clear hK K)))
   with_reducible refine Wp ?_
   simp only [go_sem, fN, seval, true_implies, false_implies, implies_true, dT, dF, nL]
   (try with_reducible refine iC ?_)
   repeat' with_reducible first | refine W ?_ | refine Z0 ?_ | ((first | refine Wo fun K hK => ?_ | refine Wq ?_ | refine Wr ?_); (try simp only [go_sem, fN, seval, eT, iR, d5.1]); (repeat refine Ai ?_); (try (refine hK _ ?_; clear hK K)))
   refine ⟨_, p54, ?_⟩
   repeat' with_reducible first | refine W ?_ | refine Z0 ?_ | ((first | refine Wo fun K hK => ?_ | refine Wq ?_ | refine Wr ?_); (try simp only [go_sem, fN, seval, eT, iR]); (repeat refine Ai ?_); (try (refine hK _ ?_; clear hK K)))
   with_reducible refine Wp ?_
   simp only [go_sem, fN, seval, true_implies, false_implies, implies_true, dT, dF, nL]
   (try with_reducible refine iC ?_)
   repeat' with_reducible first | refine W ?_ | refine Z0 ?_ | ((first | refine Wo fun K hK => ?_ | refine Wq ?_ | refine Wr ?_); (try simp only [go_sem, fN, seval, eT, iR]); (repeat refine Ai ?_); (try (refine hK _ ?_; clear hK K)))
   refine ⟨_, ht, ?_⟩
   repeat' with_reducible first | refine W ?_ | refine Z0 ?_ | ((first | refine Wo fun K hK => ?_ | refine Wq ?_ | refine Wr ?_); (try simp only [go_sem, fN, seval, eT, iR]); (repeat refine Ai ?_); (try (refine hK _ ?_; clear hK K)))
   simp only [go_sem, fN, seval, AZ, AS.result, AB, AF, AP]
   simp only [AV.tup.injEq, AV.agg.injEq, AV.one.injEq, AC.st.injEq, SV.int.injEq, SV.str.injEq, SV.bool.injEq, SV.list.injEq, List.cons.injEq, Option.some.injEq, true_and, and_true, eq_self, Ac, Tm.args_mk, Tm.name_mk, List.map_cons, List.map_nil, List.map_append, Tm.size, Tm.sizes]
   omega
  by_cases h1 : x54 = 1
  ·obtain ⟨t, ht, hs, hc1, hX1, hL1, hU1⟩ := ih (most - 1) (by omega) (at_ + 1) (by omega) (by omega)
   unfold DQ at ht
   rw [show (((at_ + 1 : Nat) : Int)) = (at_ : Int) + 1 by omega, show (((most - 1 : Nat) : Int)) = (most : Int) - 1 by omega] at ht
   refine ⟨.mk ⟨#[107]⟩ [t], ?_, by simp only [Tm.size, Tm.sizes]; omega, HI (by decide) (by decide) (by simp [hc1]), DE (by simp [CC]) (fun h => absurd h (by decide)) (by simp [hX1]), (by have := Iz (m := most) (by omega); simp [Tm.lvs, Tm.lvsL]; omega), fun h3 => HU (by decide) (by simp [hU1 h3])⟩
   unfold DQ
   subst h1
   refine Dq.ac fun C hC => ?_
   unfold DC
   repeat' with_reducible first | refine W ?_ | refine Z0 ?_ | ((first | refine Wo fun K hK => ?_ | refine Wq ?_ | refine Wr ?_); (try simp only [go_sem, fN, seval, eT, iR]); (repeat refine Ai ?_); (try (refine hK _ ?_; clear hK K)))
   refine ⟨_, hraw, ?_⟩
   repeat' with_reducible first | refine W ?_ | refine Z0 ?_ | ((first | refine Wo fun K hK => ?_ | refine Wq ?_ | refine Wr ?_); (try simp only [go_sem, fN, seval, eT, iR, hm3]); (repeat refine Ai ?_); (try (refine hK _ ?_; clear hK K)))
   refine ⟨_, p5, ?_⟩
   repeat' with_reducible first | refine W ?_ | refine Z0 ?_ | ((first | refine Wo fun K hK => ?_ | refine Wq ?_ | refine Wr ?_); (try simp only [go_sem, fN, seval, eT, iR, h5]); (repeat refine Ai ?_); (try (refine hK _ ?_; clear hK K)))
   with_reducible refine Wp ?_
   simp only [go_sem, fN, seval, true_implies, false_implies, implies_true, dT, dF, nL]
   (try with_reducible refine iC ?_)
   repeat' with_reducible first | refine W ?_ | refine Z0 ?_ | ((first | refine Wo fun K hK => ?_ | refine Wq ?_ | refine Wr ?_); (try simp only [go_sem, fN, seval, eT, iR, d5.1]); (repeat refine Ai ?_); (try (refine hK _ ?_; clear hK K)))
   refine ⟨_, p54, ?_⟩
   repeat' with_reducible first | refine W ?_ | refine Z0 ?_ | ((first | refine Wo fun K hK => ?_ | refine Wq ?_ | refine Wr ?_); (try simp only [go_sem, fN, seval, eT, iR]); (repeat refine Ai ?_); (try (refine hK _ ?_; clear hK K)))
   with_reducible refine Wp ?_
   simp only [go_sem, fN, seval, true_implies, false_implies, implies_true, dT, dF, nL]
   (try with_reducible refine iC ?_)
   repeat' with_reducible first | refine W ?_ | refine Z0 ?_ | ((first | refine Wo fun K hK => ?_ | refine Wq ?_ | refine Wr ?_); (try simp only [go_sem, fN, seval, eT, iR]); (repeat refine Ai ?_); (try (refine hK _ ?_; clear hK K)))
   with_reducible refine Wp ?_
   simp only [go_sem, fN, seval, true_implies, false_implies, implies_true, dT, dF, nL]
   (try with_reducible refine iC ?_)
   repeat' (first | (with_reducible first | refine W ?_ | refine Z0 ?_ | ((first | refine Wo fun K hK => ?_ | refine Wq ?_ | refine Wr ?_); (try simp only [go_sem, fN, seval, eT, iR]); (repeat refine Ai ?_); (try (refine hK _ ?_; clear hK K)))) | refine Cg _ (ht) ?_)
   simp only [go_sem, fN, seval, AZ, AS.result, AB, AF, AP]
   simp only [AV.tup.injEq, AV.agg.injEq, AV.one.injEq, AC.st.injEq, SV.int.injEq, SV.str.injEq, SV.bool.injEq, SV.list.injEq, List.cons.injEq, Option.some.injEq, true_and, and_true, eq_self, Ac, Tm.args_mk, Tm.name_mk, List.map_cons, List.map_nil, List.map_append, Tm.size, Tm.sizes]
   omega
  have d2 := D9 (x := (most : Int)) (n := 2) (by omega) (by omega)
  have e2 : (most : Int) / 2 = ((most / 2 : Nat) : Int) := by omega
  obtain ⟨t, ht, hs, hc1, hX1, hL1, hU1⟩ := ih (most / 2) (by omega) (at_ + 1) (by omega) (by omega)
  obtain ⟨u, hu, hs', hc2, hX2, hL2, hU2⟩ := ih (most / 2) (by omega) (at_ + 1 + t.size) (by omega) (by omega)
  obtain ⟨nm, hnm, hok, hnv, hin⟩ : ∃ nm, [([.str ⟨#[102]⟩] : List SV), [.str ⟨#[103]⟩]][(x54 - 2).toNat]? = some [.str nm] ∧ BN nm = true ∧ AU nm = false ∧ nm ∈ CC := by
   have : (x54 - 2).toNat = 0 ∨ (x54 - 2).toNat = 1 := by omega
   rcases this with h | h <;> rw [h] <;> exact ⟨_, rfl, by decide, by decide, by simp [CC]⟩
  refine ⟨.mk nm [t, u], ?_, by simp only [Tm.size, Tm.sizes]; omega, HI hok hnv (by simp [hc1, hc2]), DE hin (fun h => by rw [hnv] at h; cases h) (by simp [hX1, hX2]), (by have := NQ (m := most) (by omega); simp [Tm.lvs, Tm.lvsL]; omega), fun h3 => HU (fun e => by rw [e] at hnv; exact absurd hnv (by decide)) (by simp [hU1 h3, hU2 h3])⟩
  unfold DQ at ht hu ⊢
  rw [show (((at_ + 1 : Nat) : Int)) = (at_ : Int) + 1 by omega] at ht
  refine Dq.ac fun C hC => ?_
  unfold DC
  repeat' with_reducible first | refine W ?_ | refine Z0 ?_ | ((first | refine Wo fun K hK => ?_ | refine Wq ?_ | refine Wr ?_); (try simp only [go_sem, fN, seval, eT, iR]); (repeat refine Ai ?_); (try (refine hK _ ?_; clear hK K)))
  refine ⟨_, hraw, ?_⟩
  repeat' with_reducible first | refine W ?_ | refine Z0 ?_ | ((first | refine Wo fun K hK => ?_ | refine Wq ?_ | refine Wr ?_); (try simp only [go_sem, fN, seval, eT, iR, hm3]); (repeat refine Ai ?_); (try (refine hK _ ?_; clear hK K)))
  refine ⟨_, p5, ?_⟩
  repeat' with_reducible first | refine W ?_ | refine Z0 ?_ | ((first | refine Wo fun K hK => ?_ | refine Wq ?_ | refine Wr ?_); (try simp only [go_sem, fN, seval, eT, iR, h5]); (repeat refine Ai ?_); (try (refine hK _ ?_; clear hK K)))
  with_reducible refine Wp ?_
  simp only [go_sem, fN, seval, true_implies, false_implies, implies_true, dT, dF, nL]
  (try with_reducible refine iC ?_)
  repeat' with_reducible first | refine W ?_ | refine Z0 ?_ | ((first | refine Wo fun K hK => ?_ | refine Wq ?_ | refine Wr ?_); (try simp only [go_sem, fN, seval, eT, iR, d5.1]); (repeat refine Ai ?_); (try (refine hK _ ?_; clear hK K)))
  refine ⟨_, p54, ?_⟩
  repeat' with_reducible first | refine W ?_ | refine Z0 ?_ | ((first | refine Wo fun K hK => ?_ | refine Wq ?_ | refine Wr ?_); (try simp only [go_sem, fN, seval, eT, iR]); (repeat refine Ai ?_); (try (refine hK _ ?_; clear hK K)))
  with_reducible refine Wp ?_
  simp only [go_sem, fN, seval, true_implies, false_implies, implies_true, dT, dF, nL, h0]
  (try with_reducible refine iC ?_)
  repeat' with_reducible first | refine W ?_ | refine Z0 ?_ | ((first | refine Wo fun K hK => ?_ | refine Wq ?_ | refine Wr ?_); (try simp only [go_sem, fN, seval, eT, iR]); (repeat refine Ai ?_); (try (refine hK _ ?_; clear hK K)))
  with_reducible refine Wp ?_
  simp only [go_sem, fN, seval, true_implies, false_implies, implies_true, dT, dF, nL, h1]
  (try with_reducible refine iC ?_)
  repeat' (first | (with_reducible first | refine W ?_ | refine Z0 ?_ | ((first | refine Wo fun K hK => ?_ | refine Wq ?_ | refine Wr ?_); (try simp only [go_sem, fN, seval, eT, iR, d2.1, e2, d5.1, hnm]); (repeat refine Ai ?_); (try (refine hK _ ?_; clear hK K)))) | refine Cg _ (ht) ?_ | refine Cg _ (hu) ?_ | refine Cg _ (p54) ?_)
  simp only [go_sem, fN, seval, AZ, AS.result, AB, AF, AP]
  simp only [AV.tup.injEq, AV.agg.injEq, AV.one.injEq, AC.st.injEq, SV.int.injEq, SV.str.injEq, SV.bool.injEq, SV.list.injEq, List.cons.injEq, Option.some.injEq, true_and, and_true, eq_self, Ac, Tm.args_mk, Tm.name_mk, List.map_cons, List.map_nil, List.map_append, Tm.size, Tm.sizes]
  omega
theorem Qt (l : List Int) (hl : ∀ n ∈ l, inR .i64 n) (hm : l.length ≤ maxLen) (vars : Int) (hv : 1 ≤ vars ∧ vars ≤ 4) (most at_ : Nat) (h1 : most ≤ 1000) (h2 : at_ + 2 * most ≤ 900000) : ∃ t : Tm, DQ l at_ most vars t ∧ t.size + 1 ≤ max 2 (2 * most) ∧ t.chk = 0 ∧ HG vars t := by
 obtain ⟨t, a, b, c, d, _⟩ := Q3 l hl hm vars hv most at_ h1 h2
 exact ⟨t, a, b, c, d⟩
theorem Qw (l : List Int) (hl : ∀ n ∈ l, inR .i64 n) (hm : l.length ≤ maxLen) (vars : Int) (hv : 1 ≤ vars ∧ vars ≤ 4) (most at_ : Nat) (h1 : most ≤ 1000) (h2 : at_ + 2 * most ≤ 900000) : ∃ t : Tm, DQ l at_ most vars t ∧ t.size + 1 ≤ max 2 (2 * most) ∧ t.chk = 0 := by
 obtain ⟨t, a, b, c, _⟩ := Qt l hl hm vars hv most at_ h1 h2
 exact ⟨t, a, b, c⟩
theorem OQ (l : List Int) (hl : ∀ n ∈ l, inR .i64 n) (hm : l.length ≤ maxLen) (vars : Int) (hv : 1 ≤ vars ∧ vars ≤ 4) (most at_ : Nat) (h1 : most ≤ 1000) (h2 : at_ + 2 * most ≤ 900000) :
  ∃ t : Tm, AW Try.prog 4 [EK l, Ab at_, Ab most, Ab vars] (aTm t) ∧ t.size + 1 ≤ max 2 (2 * most) ∧ t.chk = 0 := by
 obtain ⟨t, ht, hs, hc⟩ := Qw l hl hm vars hv most at_ h1 h2
 refine ⟨t, ?_, hs, hc⟩
 unfold DQ at ht
 refine K5.ac fun C hC => ?_
 unfold Gi
 repeat' (first | (with_reducible first | refine W ?_ | refine Z0 ?_ | ((first | refine Wo fun K hK => ?_ | refine Wq ?_ | refine Wr ?_); (try simp only [go_sem, fN, seval, eT, iR]); (repeat refine Ai ?_); (try (refine hK _ ?_; clear hK K)))) | refine Cg _ (ht) ?_)
 simp only [go_sem, fN, seval, AZ, AS.result, AB, AF, AP]

set_option maxRecDepth 100000
def Ct : IR :=
 (.seq (.ops [.i 0 (.mov (.c (.one (.st (.bool false)))))]) (.seq (.ops [.i 8 (.call 16 [.c (.one (.st (.str (ByteArray.mk (#[102, 40, 97, 44, 88, 41])))))]), .m 7 8, .i 9 (.extract 0 (.t 7)), .i 10 (.extract 1 (.t 7)), .i 1 (.alloc 25 [.st (.str (ByteArray.mk (#[]))), .full []]), .s 2 1 9, .m 2 10]) (.seq (.ops [.i 12 (.call 16 [.c (.one (.st (.str (ByteArray.mk (#[102, 40, 89, 44, 98, 41])))))]), .m 11 12, .i 13 (.extract 0 (.t 11)), .i 14 (.extract 1 (.t 11)), .i 3 (.alloc 25 [.st (.str (ByteArray.mk (#[]))), .full []]), .s 2 3 13, .m 4 14]) (.seq (.ops [.L 16 2 1, .L 17 2 3, .i 18 (.build [.st (.str (ByteArray.mk (#[]))), .full [], .st (.str (ByteArray.mk (#[]))), .full []] [(0, 2, .t 16), (2, 2, .t 17)]), .i 19 (.buildSlice false 51 4 [.t 18]), .i 20 (.call 17 [.t 19]), .m 15 20, .i 21 (.extract 0 (.t 15)), .i 22 (.extract 1 (.t 15)), .m 5 21, .m 6 22]) (.seq (.ops [.m 23 2, .i 24 (.bin .eql (.t 23) (.n 0)), .m 25 24, .mk (some 26) (some (25, true)) (.mov (.t 4)) .no, .mk (some 27) (some (25, true)) (.bin .eql (.t 26) (.n 0)) .no, .i 28 (.pick (.t 25) (.t 27) (.c (.one (.st (.bool false))))), .m 29 28, .mk (some 30) (some (29, true)) (.mov (.t 6)) .no, .mk (some 31) (some (29, true)) (.bin .eql (.t 30) (.n 0)) .no, .i 32 (.pick (.t 29) (.t 31) (.c (.one (.st (.bool false))))), .m 33 32, .mk (some 34) (some (33, true)) (.mov (.t 5)) .no, .mk (some 35) (some (33, true)) (.len false (.t 34)) .no, .mk (some 36) (some (33, true)) (.bin .eql (.t 35) (.n 2)) .no, .i 37 (.pick (.t 33) (.t 36) (.c (.one (.st (.bool false))))), .m 38 37, .mk (some 39) (some (38, true)) (.mov (.t 5)) .no, .mk (some 40) (some (38, true)) (.indexAddr 3 (.t 39) (.n 0)) .no, .mk (some 41) (some (38, true)) (.fieldAddr 0 (.t 40)) .no, .mk (some 42) (some (38, true)) (.load false 1 (.t 41)) .no, .mk (some 43) (some (38, true)) (.bin .eql (.t 42) (.c (.one (.st (.str (ByteArray.mk (#[88]))))))) .no, .i 44 (.pick (.t 38) (.t 43) (.c (.one (.st (.bool false))))), .m 45 44, .mk (some 46) (some (45, true)) (.mov (.t 5)) .no, .mk (some 47) (some (45, true)) (.indexAddr 3 (.t 46) (.n 0)) .no, .mk (some 48) (some (45, true)) (.fieldAddr 1 (.t 47)) .no, .mk (some 49) (some (45, true)) (.fieldAddr 0 (.t 48)) .no, .mk (some 50) (some (45, true)) (.load false 1 (.t 49)) .no, .mk (some 51) (some (45, true)) (.bin .eql (.t 50) (.c (.one (.st (.str (ByteArray.mk (#[98]))))))) .no, .i 52 (.pick (.t 45) (.t 51) (.c (.one (.st (.bool false))))), .m 53 52, .mk (some 54) (some (53, true)) (.mov (.t 5)) .no, .mk (some 55) (some (53, true)) (.indexAddr 3 (.t 54) (.n 1)) .no, .mk (some 56) (some (53, true)) (.fieldAddr 1 (.t 55)) .no, .mk (some 57) (some (53, true)) (.fieldAddr 0 (.t 56)) .no, .mk (some 58) (some (53, true)) (.load false 1 (.t 57)) .no, .mk (some 59) (some (53, true)) (.bin .eql (.t 58) (.c (.one (.st (.str (ByteArray.mk (#[97]))))))) .no, .i 60 (.pick (.t 53) (.t 59) (.c (.one (.st (.bool false))))), .m 0 60]) .ret)))))
theorem Eb : OkF Try.prog 8 61 [] Ct [.t 0] := .of Try.func8 rfl rfl (by kernel_rfl) rfl

set_option maxHeartbeats 1600000
abbrev nA : ByteArray := ⟨#[97]⟩
abbrev nB : ByteArray := ⟨#[98]⟩
abbrev nF : ByteArray := ⟨#[102]⟩
abbrev nX : ByteArray := ⟨#[88]⟩
abbrev nY : ByteArray := ⟨#[89]⟩
abbrev Oo : Tm := .mk nF [.mk nA [], .mk nX []]
abbrev PS : Tm := .mk nF [.mk nY [], .mk nB []]
set_option maxRecDepth 100000 in
theorem MU : Jh ⟨#[102,40,97,44,88,41]⟩ = (Oo, 0) := by kernel_rfl
set_option maxRecDepth 100000 in
theorem Lk : Jh ⟨#[102,40,89,44,98,41]⟩ = (PS, 0) := by kernel_rfl
theorem PC : DP [(Oo, PS)] = 0 := by kernel_rfl
abbrev Qs : List Bd := [(nX, .mk nB []), (nY, .mk nA [])]
theorem NJ : FQ 3 [] [(Oo, PS)] (Qs, 0) := by
 refine .go (s' := []) (ps := [(.mk nA [], .mk nY []), (.mk nX [], .mk nB [])]) (by kernel_rfl) ?_
 refine .go (s' := [(nY, .mk nA [])]) (ps := []) (by kernel_rfl) ?_
 refine .go (s' := Qs) (ps := []) (by kernel_rfl) ?_
 exact .nil
set_option maxRecDepth 20000 in
theorem RK : AW Try.prog 8 [] (Aj true) := by
 have h1 := Mo ⟨#[102,40,97,44,88,41]⟩
 have h2 := Mo ⟨#[102,40,89,44,98,41]⟩
 rw [MU] at h1
 rw [Lk] at h2
 have h3 := OJ PC NJ
 unfold M3 at h1 h2
 refine Eb.ac fun C hC => ?_
 unfold Ct
 repeat' (first | (with_reducible first | refine W ?_ | refine Z0 ?_ | ((first | refine Wo fun K hK => ?_ | refine Wp ?_ | refine Wq ?_ | refine Wr ?_); (try simp only [go_sem, fN, seval, eT, iR, CY, dT, dF, nL]); (repeat refine Ai ?_); (try (refine hK _ ?_; clear hK K)); try refine iC ?_)) | refine Cg _ (h1) ?_ | refine Cg _ (h2) ?_ | refine Cg _ (h3) ?_)
 simp only [go_sem, fN, seval, AZ, AS.result, AB, AF, AP]


theorem KE {t : Tm} (hc : t.chk = 0) (hz : t.size ≤ 200) : t.may = 0 := by
 unfold Tm.may
 rw [if_neg (by omega)]
 exact hc

def F8 : IR :=
 (.seq (.ops [.i 2 (.mov (.c (.one (.full []))))]) (.seq (.ops [.i 4 (.buildFlat [.c (.one (.st (.str (ByteArray.mk (#[97]))))), .c (.one (.st (.str (ByteArray.mk (#[98]))))), .c (.one (.st (.str (ByteArray.mk (#[99]))))), .c (.one (.st (.str (ByteArray.mk (#[104]))))), .c (.one (.st (.str (ByteArray.mk (#[107]))))), .c (.one (.st (.str (ByteArray.mk (#[102]))))), .c (.one (.st (.str (ByteArray.mk (#[103])))))]), .i 5 (.buildFlat [.c (.one (.st (.str (ByteArray.mk (#[103]))))), .c (.one (.st (.str (ByteArray.mk (#[102]))))), .c (.one (.st (.str (ByteArray.mk (#[107]))))), .c (.one (.st (.str (ByteArray.mk (#[104]))))), .c (.one (.st (.str (ByteArray.mk (#[99]))))), .c (.one (.st (.str (ByteArray.mk (#[98]))))), .c (.one (.st (.str (ByteArray.mk (#[97])))))]), .i 6 (.buildFlat [.c (.one (.st (.str (ByteArray.mk (#[102]))))), .c (.one (.st (.str (ByteArray.mk (#[104])))))]), .i 7 (.buildFlat [.c (.one (.st (.str (ByteArray.mk (#[101]))))), .c (.one (.st (.str (ByteArray.mk (#[102]))))), .c (.one (.st (.str (ByteArray.mk (#[105])))))]), .i 8 (.buildFlat [.c (.one (.st (.str (ByteArray.mk (#[99]))))), .c (.one (.st (.str (ByteArray.mk (#[97]))))), .c (.one (.st (.str (ByteArray.mk (#[107]))))), .c (.one (.st (.str (ByteArray.mk (#[104]))))), .c (.one (.st (.str (ByteArray.mk (#[103]))))), .c (.one (.st (.str (ByteArray.mk (#[102])))))]), .i 9 (.buildSlice false 37 1 [.t 4, .t 5, .t 6, .c (.one (.full [])), .t 7, .t 8]), .m 3 9]) (.seq (.ops [.m 10 3, .m 11 0, .m 12 3, .i 13 (.len false (.t 12)), .i 14 (.call 5 [.t 11, .t 13]), .i 15 (.indexAddr 1 (.t 10) (.t 14)), .l 16 15, .m 2 16]) .ret)))
theorem KG : OkF Try.prog 11 17 [] F8 [.t 2] := .of Try.func11 rfl rfl (by kernel_rfl) rfl

theorem N2 (m : Int) (hm : inR .i64 m) : ∃ row, AW Try.prog 11 [Ab m] (Cr row) ∧ DR row = 0 := by
 have r1 := BF m 6 (by omega)
 have p1 := Dg m 6 hm (by omega)
 obtain ⟨k, e1⟩ : ∃ k : Nat, CR m 6 = k := ⟨(CR m 6).toNat, by omega⟩
 rw [e1] at p1 r1
 have key : ∀ row : List ByteArray, [([.list [[.str ⟨#[97]⟩], [.str ⟨#[98]⟩], [.str ⟨#[99]⟩], [.str ⟨#[104]⟩], [.str ⟨#[107]⟩], [.str ⟨#[102]⟩], [.str ⟨#[103]⟩]]] : List SV), [.list [[.str ⟨#[103]⟩], [.str ⟨#[102]⟩], [.str ⟨#[107]⟩], [.str ⟨#[104]⟩], [.str ⟨#[99]⟩], [.str ⟨#[98]⟩], [.str ⟨#[97]⟩]]], [.list [[.str ⟨#[102]⟩], [.str ⟨#[104]⟩]]], [.list []], [.list [[.str ⟨#[101]⟩], [.str ⟨#[102]⟩], [.str ⟨#[105]⟩]]], [.list [[.str ⟨#[99]⟩], [.str ⟨#[97]⟩], [.str ⟨#[107]⟩], [.str ⟨#[104]⟩], [.str ⟨#[103]⟩], [.str ⟨#[102]⟩]]]][k]? = some [.list (row.map Kc)] → AW Try.prog 11 [Ab m] (Cr row) := fun row hrow => by
  refine KG.ac fun C hC => ?_
  unfold F8
  repeat' (first | (with_reducible first | refine W ?_ | refine Z0 ?_ | ((first | refine Wo fun K hK => ?_ | refine Wp ?_ | refine Wq ?_ | refine Wr ?_); (try simp only [go_sem, fN, seval, eT, iR, hrow, dT, dF, nL]); (repeat refine Ai ?_); (try (refine hK _ ?_; clear hK K)); try refine iC ?_)) | refine Cg _ (p1) ?_)
  simp only [go_sem, fN, seval, AZ, AS.result, AB, AF, AP]
 match k, (show k < 6 by omega) with
 | 0, _ => exact ⟨[⟨#[97]⟩, ⟨#[98]⟩, ⟨#[99]⟩, ⟨#[104]⟩, ⟨#[107]⟩, ⟨#[102]⟩, ⟨#[103]⟩], key _ rfl, by decide +kernel⟩
 | 1, _ => exact ⟨[⟨#[103]⟩, ⟨#[102]⟩, ⟨#[107]⟩, ⟨#[104]⟩, ⟨#[99]⟩, ⟨#[98]⟩, ⟨#[97]⟩], key _ rfl, by decide +kernel⟩
 | 2, _ => exact ⟨[⟨#[102]⟩, ⟨#[104]⟩], key _ rfl, by decide +kernel⟩
 | 3, _ => exact ⟨[], key _ rfl, by decide +kernel⟩
 | 4, _ => exact ⟨[⟨#[101]⟩, ⟨#[102]⟩, ⟨#[105]⟩], key _ rfl, by decide +kernel⟩
 | 5, _ => exact ⟨[⟨#[99]⟩, ⟨#[97]⟩, ⟨#[107]⟩, ⟨#[104]⟩, ⟨#[103]⟩, ⟨#[102]⟩], key _ rfl, by decide +kernel⟩

def H2 : IR :=
 (.seq (.ops [.i 2 (.box 25 (.t 0)), .i 4 (.alloc 25 [.st (.str (ByteArray.mk (#[]))), .full []]), .i 5 (.mov (.n 0))]) (.seq (.seq (.ops [.L 9 2 2, .i 10 (.call 13 [.t 9]), .m 6 10]) (.seq (.ops [.m 11 6, .i 12 (.bin .neq (.t 11) (.n 0))]) (.cond (.t 12) (.seq (.ops [.i 13 (.build [.st (.str (ByteArray.mk (#[]))), .full []] []), .m 14 6, .s 2 4 13, .m 5 14]) .ret) .skip))) (.seq (.ops [.L 16 2 2, .m 17 1, .i 18 (.call 14 [.t 16, .t 17]), .m 15 18, .i 19 (.extract 0 (.t 15)), .i 20 (.extract 1 (.t 15)), .i 7 (.alloc 25 [.st (.str (ByteArray.mk (#[]))), .full []]), .s 2 7 19, .m 8 20]) (.seq (.seq (.ops [.m 21 8, .i 22 (.un .not (.t 21))]) (.cond (.t 22) (.seq (.ops [.i 23 (.build [.st (.str (ByteArray.mk (#[]))), .full []] []), .s 2 4 23, .i 5 (.mov (.n 10))]) .ret) .skip)) (.seq (.ops [.L 24 2 7, .i 25 (.call 15 [.t 24]), .s 2 4 25, .i 5 (.mov (.n 0))]) .ret)))))
theorem Lm : OkF Try.prog 7 26 [] H2 [.cell 4 true 2, .t 5] := .of Try.func7 rfl rfl (by kernel_rfl) rfl
def Gv : IR :=
 (.seq (.ops [.i 3 (.box 25 (.t 0)), .i 5 (.box 25 (.t 2)), .i 6 (.alloc 25 [.st (.str (ByteArray.mk (#[]))), .full []]), .i 7 (.mov (.n 0))]) (.seq (.ops [.L 11 2 3, .i 12 (.call 13 [.t 11]), .m 8 12]) (.seq (.seq (.ops [.m 13 8, .i 14 (.bin .eql (.t 13) (.n 0))]) (.cond (.t 14) (.ops [.L 15 2 5, .i 16 (.call 13 [.t 15]), .m 8 16]) .skip)) (.seq (.seq (.ops [.m 17 8, .i 18 (.bin .neq (.t 17) (.n 0))]) (.cond (.t 18) (.seq (.ops [.i 19 (.build [.st (.str (ByteArray.mk (#[]))), .full []] []), .m 20 8, .s 2 6 19, .m 7 20]) .ret) .skip)) (.seq (.seq (.ops [.L 22 2 3, .m 23 1, .i 24 (.call 14 [.t 22, .t 23]), .m 21 24, .i 25 (.extract 0 (.t 21)), .i 26 (.extract 1 (.t 21)), .i 9 (.alloc 25 [.st (.str (ByteArray.mk (#[]))), .full []]), .s 2 9 25, .m 10 26]) (.seq (.ops [.m 27 10, .i 28 (.un .not (.t 27))]) (.cond (.t 28) (.seq (.ops [.i 29 (.build [.st (.str (ByteArray.mk (#[]))), .full []] []), .s 2 6 29, .i 7 (.mov (.n 10))]) .ret) .skip))) (.seq (.ops [.L 30 2 3, .m 31 1, .L 32 2 5, .i 33 (.call 18 [.t 30, .t 31, .t 32]), .s 2 6 33, .i 7 (.mov (.n 0))]) .ret))))))
theorem KY : OkF Try.prog 9 34 [] Gv [.cell 6 true 2, .t 7] := .of Try.func9 rfl rfl (by kernel_rfl) rfl
def BE : IR :=
 (.seq (.ops [.i 10 (.mov (.c (.one (.st (.bool false)))))]) (.seq (.seq (.ops [.m 20 0, .i 21 (.len false (.t 20)), .i 22 (.bin .gtr (.t 21) (.n 256))]) (.cond (.t 22) (.seq (.ops [.i 10 (.mov (.c (.one (.st (.bool true)))))]) .ret) .skip)) (.seq (.ops [.m 23 0, .m 24 2, .i 25 (.call 5 [.t 24, .n 14]), .i 26 (.bin .add (.n 2) (.t 25)), .i 27 (.call 4 [.t 23, .n 0, .t 26, .n 2]), .i 11 (.alloc 25 [.st (.str (ByteArray.mk (#[]))), .full []]), .s 2 11 27]) (.seq (.ops [.L 28 2 11, .i 29 (.call 6 [.t 28]), .m 12 29]) (.seq (.ops [.m 30 12, .m 31 3, .m 32 12, .i 33 (.len false (.t 32)), .i 34 (.call 5 [.t 31, .t 33]), .i 35 (.indexAddr 1 (.t 30) (.t 34)), .l 36 35, .m 13 36]) (.seq (.ops [.L 38 2 11, .m 39 13, .i 40 (.call 7 [.t 38, .t 39]), .m 37 40, .i 41 (.extract 0 (.t 37)), .i 42 (.extract 1 (.t 37)), .i 14 (.alloc 25 [.st (.str (ByteArray.mk (#[]))), .full []]), .s 2 14 41, .m 15 42]) (.seq (.seq (.ops [.m 43 15, .i 44 (.bin .neq (.t 43) (.n 0))]) (.cond (.t 44) (.seq (.ops [.i 10 (.mov (.c (.one (.st (.bool false)))))]) .ret) .skip)) (.seq (.seq (.ops [.f 45 1 14, .l 46 45, .i 47 (.len false (.t 46)), .i 48 (.bin .eql (.t 47) (.n 0))]) (.cond (.t 48) (.seq (.ops [.i 49 (.call 8 []), .m 10 49]) .ret) .skip)) (.seq (.ops [.L 51 2 11, .m 52 13, .f 53 1 14, .l 54 53, .m 55 4, .f 56 1 14, .l 57 56, .i 58 (.len false (.t 57)), .i 59 (.call 5 [.t 55, .t 58]), .i 60 (.indexAddr 2 (.t 54) (.t 59)), .L 61 2 60, .i 62 (.call 9 [.t 51, .t 52, .t 61]), .m 50 62, .i 63 (.extract 0 (.t 50)), .i 64 (.extract 1 (.t 50)), .i 16 (.alloc 25 [.st (.str (ByteArray.mk (#[]))), .full []]), .s 2 16 63, .m 15 64]) (.seq (.seq (.ops [.m 65 15, .i 66 (.bin .neq (.t 65) (.n 0))]) (.cond (.t 66) (.seq (.ops [.i 10 (.mov (.c (.one (.st (.bool false)))))]) .ret) .skip)) (.seq (.ops [.m 68 1, .i 69 (.call 11 [.t 68]), .L 70 2 11, .L 71 2 16, .i 72 (.call 10 [.t 69, .t 70, .t 71]), .m 67 72, .i 73 (.extract 0 (.t 67)), .i 74 (.extract 1 (.t 67)), .m 17 73, .m 15 74]) (.seq (.ops [.m 76 1, .i 77 (.call 11 [.t 76]), .L 78 2 16, .L 79 2 11, .i 80 (.call 10 [.t 77, .t 78, .t 79]), .m 75 80, .i 81 (.extract 0 (.t 75)), .i 82 (.extract 1 (.t 75)), .m 18 81, .m 19 82]) (.seq (.ops [.m 83 15, .i 84 (.bin .eql (.t 83) (.n 0)), .m 85 84, .mk (some 86) (some (85, true)) (.mov (.t 19)) .no, .mk (some 87) (some (85, true)) (.bin .eql (.t 86) (.n 0)) .no, .i 88 (.pick (.t 85) (.t 87) (.c (.one (.st (.bool false))))), .m 89 88, .mk (some 90) (some (89, true)) (.mov (.t 17)) .no, .i 91 (.pick (.t 89) (.t 90) (.c (.one (.st (.bool false))))), .m 92 91, .mk (some 93) (some (92, true)) (.mov (.t 18)) .no, .mk (some 94) (some (92, true)) (.un .not (.t 93)) .no, .i 95 (.pick (.t 92) (.t 94) (.c (.one (.st (.bool false))))), .m 10 95]) .ret)))))))))))))
theorem BY : OkF Try.prog 3 96 [] BE [.t 10] := .of Try.func3 rfl rfl (by kernel_rfl) rfl

set_option maxHeartbeats 2000000
theorem In {t x : Tm} (h : x ∈ t.args) : x.size < t.size := by
 have : ∀ {l : List Tm}, x ∈ l → x.size ≤ Tm.sizes l := fun {l} hm => by
  induction l with
  | nil => cases hm
  | cons y ys ih =>
   simp only [Tm.sizes]
   rcases List.mem_cons.1 hm with rfl | hm
   ·omega
   ·have := ih hm
    omega
 have h1 := this h
 rw [Tm.size_eq t]
 omega
theorem F6 : ∀ (p : List Int) (t x : Tm), t.atP p = some x → p.length + x.size ≤ t.size
 | [], t, x, h => by
  have : t = x := by cases t; simpa [Tm.atP] using h
  subst this
  simp
 | i :: p, t, x, h => by
  rw [Tm.atP_cons] at h
  split at h
  ·cases h
  ·split at h
   ·rename_i a ha
    have h1 := F6 p a x h
    have h2 := In (List.mem_of_getElem? ha)
    simp only [List.length_cons]
    omega
   ·cases h
theorem K7 : ∀ (p : List Int) (t x : Tm), t.chk = 0 → t.atP p = some x → x.chk = 0
 | [], t, x, hc, h => by
  have : t = x := by cases t; simpa [Tm.atP] using h
  subst this
  exact hc
 | i :: p, t, x, hc, h => by
  rw [Tm.atP_cons] at h
  split at h
  ·cases h
  ·split at h
   ·rename_i a ha
    exact K7 p a x ((Tm.chk_args hc).2 a (List.mem_of_getElem? ha)) h
   ·cases h
theorem RN {t x : Tm} {p : List Int} (h : t.may = 0) (hx : t.atP p = some x) : AW Try.prog 7 [aTm t, EK p] (.tup [aTm x, Ab 0]) := by
 obtain ⟨hc, hz⟩ := Tm.may_chk h
 have hl := F6 p t x hx
 have cb := LG t p (by omega)
 rw [hx] at cb
 simp only [Option.getD_some, Option.isSome_some] at cb
 refine Lm.ac fun C hC => ?_
 unfold H2
 repeat' (first | (with_reducible first | refine W ?_ | refine Z0 ?_ | ((first | refine Wo fun K hK => ?_ | refine Wp ?_ | refine Wq ?_ | refine Wr ?_); (try simp only [go_sem, fN, seval, eT, iR, h, dT, dF, nL]); (repeat refine Ai ?_); (try (refine hK _ ?_; clear hK K)); try refine iC ?_)) | refine Cg _ (DM t) ?_ | refine Cg _ (cb) ?_ | refine Cg _ (Lu x (by omega)) ?_)
 simp only [go_sem, fN, seval, AZ, AS.result, AB, AF, AP]
theorem Qx {t x y : Tm} {p : List Int} (h : t.may = 0) (hy : y.may = 0) (hx : t.atP p = some x) : AW Try.prog 9 [aTm t, EK p, aTm y] (.tup [aTm (t.putP p y), Ab 0]) := by
 obtain ⟨hc, hz⟩ := Tm.may_chk h
 obtain ⟨hc2, hz2⟩ := Tm.may_chk hy
 have hl := F6 p t x hx
 have cb := LG t p (by omega)
 rw [hx] at cb
 simp only [Option.getD_some, Option.isSome_some] at cb
 have cw := M9 y (by omega) p t (by omega) (by rw [hx]; simp) (by omega)
 refine KY.ac fun C hC => ?_
 unfold Gv
 repeat' (first | (with_reducible first | refine W ?_ | refine Z0 ?_ | ((first | refine Wo fun K hK => ?_ | refine Wp ?_ | refine Wq ?_ | refine Wr ?_); (try simp only [go_sem, fN, seval, eT, iR, h, hy, dT, dF, nL]); (repeat refine Ai ?_); (try (refine hK _ ?_; clear hK K)); try refine iC ?_)) | refine Cg _ (DM t) ?_ | refine Cg _ (DM y) ?_ | refine Cg _ (cb) ?_ | refine Cg _ (cw) ?_)
 simp only [go_sem, fN, seval, AZ, AS.result, AB, AF, AP]
theorem Mr {row : List ByteArray} (hrm : DR row = 0) {t u : Tm} (k1 : t.chk = 0) (q1 : t.size ≤ 200) (k2 : u.chk = 0) (q2 : u.size ≤ 200) : AW Try.prog 10 [Cr row, aTm t, aTm u] (.tup [Aj (paB row t u), Ab 0]) := by
 have e : C7 row t u = 0 := by
  unfold C7 Bx
  rw [if_pos hrm, if_pos (KE k1 q1)]
  exact KE k2 q2
 have := Kf row t u
 unfold Lr at this
 rw [if_pos e, e] at this
 exact this
set_option maxRecDepth 100000 in
theorem Lo (l : List Int) (m1 m2 m3 m4 : Int) (hl : ∀ n ∈ l, inR .i64 n) (hm : l.length ≤ maxLen) (h1 : inR .i64 m1) (h2 : inR .i64 m2) (h3 : inR .i64 m3) (h4 : inR .i64 m4) : AW Try.prog 3 [EK l, Ab m1, Ab m2, Ab m3, Ab m4] (Aj true) := by
 by_cases h256 : (256 : Int) < l.length
 ·refine BY.ac fun C hC => ?_
  unfold BE
  repeat' with_reducible first | refine W ?_ | refine Z0 ?_ | ((first | refine Wo fun K hK => ?_ | refine Wp ?_ | refine Wq ?_ | refine Wr ?_); (try simp only [go_sem, fN, seval, eT, iR, h256, dT, dF, nL]); (repeat refine Ai ?_); (try (refine hK _ ?_; clear hK K)); try refine iC ?_)
  simp only [go_sem, fN, seval, AZ, AS.result, AB, AF, AP]
 have r2 := BF m2 14 (by omega)
 have p2 := Dg m2 14 h2 (by omega)
 obtain ⟨k2, e2⟩ : ∃ k : Nat, CR m2 14 = k := ⟨(CR m2 14).toNat, by omega⟩
 rw [e2] at p2 r2
 obtain ⟨row, hrow, hrm⟩ := N2 m1 h1
 obtain ⟨t, ht, zt, ct⟩ := OQ l hl hm 2 (by omega) (2 + k2) 0 (by omega) (by omega)
 rw [show (((2 + k2 : Nat) : Int)) = 2 + (k2 : Int) by omega] at ht
 have zt : t.size ≤ 29 := by omega
 have hpos := Tm.size_pos t
 have hpl := Tm.places_length t
 have r3 := BF m3 (t.places.length : Int) (by omega)
 have p3 := Dg m3 (t.places.length : Int) h3 (by omega)
 obtain ⟨k3, e3⟩ : ∃ k : Nat, CR m3 (t.places.length : Int) = k := ⟨(CR m3 (t.places.length : Int)).toNat, by omega⟩
 rw [e3] at p3 r3
 obtain ⟨p, hp⟩ := Ar (show k3 < t.places.length by omega)
 obtain ⟨x, hx, -⟩ := I7 t p (Ae hp)
 have hxc := K7 p t x ct hx
 have hxl := F6 p t x hx
 have mt := KE ct (by omega : t.size ≤ 200)
 have cA := RN mt hx
 have cPl := N1 t (by omega)
 by_cases hx0 : x.args.length = 0
 ·have hx0' : ((x.args.length : Nat) : Int) = 0 := by omega
  refine BY.ac fun C hC => ?_
  unfold BE
  repeat' (first | (with_reducible first | refine W ?_ | refine Z0 ?_ | ((first | refine Wo fun K hK => ?_ | refine Wp ?_ | refine Wq ?_ | refine Wr ?_); (try simp only [go_sem, fN, seval, eT, iR, h256, hp, hx0', hx0, dT, dF, nL]); (repeat refine Ai ?_); (try (refine hK _ ?_; clear hK K)); try refine iC ?_)) | refine Cg _ (p2) ?_ | refine Cg _ (ht) ?_ | refine Cg _ (cPl) ?_ | refine Cg _ (p3) ?_ | refine Cg _ (cA) ?_ | refine Cg _ (RK) ?_)
  simp only [go_sem, fN, seval, AZ, AS.result, AB, AF, AP]
 have r4 := BF m4 (x.args.length : Int) (by omega)
 have p4 := Dg m4 (x.args.length : Int) h4 (by omega)
 obtain ⟨k4, e4⟩ : ∃ k : Nat, CR m4 (x.args.length : Int) = k := ⟨(CR m4 (x.args.length : Int)).toNat, by omega⟩
 rw [e4] at p4 r4
 obtain ⟨y, hy⟩ := Ar (show k4 < x.args.length by omega)
 have my := Ae hy
 have hyc := (Tm.chk_args hxc).2 y my
 have hyz := In my
 have cU := Qx mt (KE hyc (by omega)) hx (y := y)
 have huc := JI p t y ct hyc
 have huz := Iq p t y
 have hfn := M0 hxc (by omega)
 have hxy : Pa row x y := by
  cases x with
  | mk n xs => exact RB hfn my
 have hdn := Px hxy p t ct hx
 have c5 := Mr hrm ct (by omega) huc (by omega)
 have c6 := Mr hrm huc (by omega) ct (by omega)
 rw [DZ.2 hdn] at c5
 rw [EY.2 (LN hdn)] at c6
 generalize t.putP p y = u at *
 have hx0' : ¬ ((x.args.length : Nat) : Int) = 0 := by omega
 refine BY.ac fun C hC => ?_
 unfold BE
 repeat' (first | (with_reducible first | refine W ?_ | refine Z0 ?_ | ((first | refine Wo fun K hK => ?_ | refine Wp ?_ | refine Wq ?_ | refine Wr ?_); (try simp only [go_sem, fN, seval, eT, iR, h256, hp, hx0', hx0, hy, dT, dF, nL]); (repeat refine Ai ?_); (try (refine hK _ ?_; clear hK K)); try refine iC ?_)) | refine Cg _ (p2) ?_ | refine Cg _ (ht) ?_ | refine Cg _ (cPl) ?_ | refine Cg _ (p3) ?_ | refine Cg _ (cA) ?_ | refine Cg _ (p4) ?_ | refine Cg _ (cU) ?_ | refine Cg _ (hrow) ?_ | refine Cg _ (c5) ?_ | refine Cg _ (c6) ?_)
 simp only [go_sem, fN, seval, AZ, AS.result, AB, AF, AP]

open Go.ChangeShapes Go.WideShapes Go.ChangeAt
section
variable {H : Type} {enc : TypeId × Value → H} {P : Program}
theorem FN (hl : laidOutB P = true) : ∀ {ts : List TypeId} {vs : List Value} {ds : List (DataW H)} {ps : List MemPlace} {W W' : World} {sp : Nat → Bool},
  (∀ t ∈ ts, P.readableRec t = true ∧ t < P.types.size) → DataW.TrodAll enc P W 0 (fun _ => true) true ts vs ds ps → (∀ p ∈ ps, W.sameAt W' p) → (∀ p ∈ ps, sp p.block = true) → DataW.TrodAll enc P W' 0 sp true ts vs ds ps
 | [], [], [], _, _, _, _, _, h, _, _ => h
 | _ :: _, _ :: _, _ :: _, _, _, _, _, hT, ⟨p, q, h1, h2, e⟩, hsame, hs => ⟨p, q, WideElems.Trod_stays hl (hT _ (List.mem_cons.2 (Or.inl rfl))).1 (hT _ (List.mem_cons.2 (Or.inl rfl))).2 h1 (fun x hx => hsame x (by rw [e]; exact List.mem_append_left _ hx)) (fun x hx => hs x (by rw [e]; exact List.mem_append_left _ hx)),
   FN hl (fun t ht => hT t (List.mem_cons.2 (Or.inr ht))) h2 (fun x hx => hsame x (by rw [e]; exact List.mem_append_right _ hx)) (fun x hx => hs x (by rw [e]; exact List.mem_append_right _ hx)), e⟩
 | [], _ :: _, _, _, _, _, _, _, h, _, _ => h.elim
 | [], [], _ :: _, _, _, _, _, _, h, _, _ => h.elim
 | _ :: _, [], _, _, _, _, _, _, h, _, _ => h.elim
 | _ :: _, _ :: _, [], _, _, _, _, _, h, _, _ => h.elim
theorem Pv {f : Func} {s : ChangeSpec} {apart fresh handsOn : Bool} {W W' : World} {args : Array Value} {ds : List (DataW H)} {before : List MemPlace} {tb : TypeId}
  (hW : DataW.Whole enc P f.params.toList s.vars apart W args.toList ds [] before) (hv : s.vars = []) (hr : f.resultTypes = #[tb]) (htb : P.underlying tb = some .bool)
  (hres : (s.fn H (ds ++ [])).results = [.lit (.bool true)]) (hargs : (s.fn H (ds ++ [])).args = ds) (hvs : (s.fn H (ds ++ [])).vars = [])
  (hl : laidOutB P = true) (hT : (f.params.toList.all fun t => P.readableRec t && decide (t < P.types.size)) = true) (hb : Below W.heap.size W W') :
  s.post enc P f apart fresh handsOn false W args (.bool true) W' := by
 have hlt : ∀ p ∈ before, p.block < W.heap.size := fun p hp => hW.lt p hp
 have hT' : ∀ t ∈ f.params.toList, P.readableRec t = true ∧ t < P.types.size := fun t ht => by
  have := List.all_eq_true.1 hT t ht
  simpa using this
 obtain ⟨p, q, hA, hV, rfl, hz, hn⟩ := hW
 rw [hv] at hV
 obtain ⟨_, rfl⟩ := trodVars_none hV
 have hargs' : ∀ sp : Nat → Bool, (∀ x ∈ p, sp x.block = true) → DataW.TrodAll enc P W' 0 sp true f.params.toList args.toList ds p := fun sp hsp =>
  FN hl hT' hA (fun x hx => hb.same (hlt x (by simpa using hx))) hsp
 have hres' : ∀ (b : Nat) (sp : Nat → Bool) (hd : Bool), DataW.TrodAll enc P W' b sp hd f.resultTypes.toList ((Value.bool true).resultList f.resultTypes.size) (s.fn H (ds ++ [])).results [] := fun b sp hd => by
  rw [hres, hr]
  exact trodAll_cons_mk (shut_bool htb true) trodAll_mk0
 refine ⟨ds, [], p ++ [], [], p, [], ⟨p, [], hA, by rw [hv]; exact rfl, rfl, hz, hn⟩, hres' _ _ _, by rw [hargs]; exact hargs' _ (fun x hx => by simpa using hlt x (by simpa using hx)), by rw [hv, hvs]; exact rfl,
  World.keptBut_mono (fun x hx => ⟨hx, Or.inr (by simpa using hx)⟩) (hb.frame (· ∈ p ++ [])), fun h => by cases h⟩
variable {W : World} {sp : Nat → Bool} {hd : Bool} {base : Nat}
def sto (W : World) : Sto := CZ W
theorem QE (W : World) : Fit (sto W) W := fun _ _ h => h
theorem JB {W : World} {a : Addr} {v : Value} (h : W.cell? a = some v) : a.spot = none := by
 cases hs : a.spot with
 | none => rfl
 | some n =>
  unfold World.cell? at h
  split at h
  ·simp [hs] at h
  ·cases h
theorem LK {α : Type} {p : Nat → α → Prop} {n : Nat} (h : ∀ i, i < n → ∃ b, p i b) : ∃ xs : List α, xs.length = n ∧ ∀ i (h : i < xs.length), p i xs[i] := by
 induction n with
 | zero => exact ⟨[], rfl, fun i h => absurd h (by simp)⟩
 | succ m ih =>
  obtain ⟨xs, h1, h2⟩ := ih (fun i hi => h i (by omega))
  obtain ⟨b, h3⟩ := h m (by omega)
  refine ⟨xs ++ [b], by simp [h1], fun i hi => ?_⟩
  by_cases him : i < xs.length
  ·rw [List.getElem_append_left him]
   exact h2 i him
  ·have : i = xs.length := by simp at hi; omega
   subst this
   rw [show (xs ++ [b])[xs.length]'hi = b by simp, h1]
   exact h3
theorem Jd {α : Type} {e0 : α → List SV} {t e : TypeId} {k : Nat} {fuel : Nat} {cs : List Value} {x : DataW H × List MemPlace} (ht : P.underlying t = some (.slice e)) (hc : P.cellsOf e = k) (hlen : ∀ a, (e0 a).length = k) (hk : 0 < k)
  (f : ∀ (n : Nat) (cs : List Value) (y : DataW H × List MemPlace), n < fuel → DataW.trod enc P W base sp hd n e cs = some y → ∃ a : α, AT (Al (sto W)) cs (e0 a))
  (h : DataW.trod enc P W base sp hd fuel t cs = some x) (hs : BU = true → k < 2 := by decide) : ∃ xs : List α, AT (Al (sto W)) cs [.list (xs.map e0)] := by
 rcases DataW.trod_slice ht h with ⟨rfl, _⟩ | ⟨a, len, cap, Cu, rest, n, hfu, rfl, _, hb, hl, hm, hlen', hel, _, _⟩
 ·exact ⟨[], .cons KK .nil⟩
 ·have key : ∀ i, i < len → ∃ (b : α), ∃ (cs' : List Value), cs'.length = k ∧ (∀ j u, cs'[j]? = some u → W.cell? ((a.add (i * k)).add j) = some u) ∧ AT (Al (sto W)) cs' (e0 b) := fun i hi => by
   have h1 := hel i hi
   rw [List.getElem?_eq_getElem (by omega)] at h1
   obtain ⟨cs', h2, h3⟩ := Option.bind_eq_some_iff.1 h1
   obtain ⟨_, h4, h5⟩ := World.cells?_some h2
   obtain ⟨b, hb⟩ := f n cs' _ (by omega) h3
   rw [hc] at h4 h5
   refine ⟨b, cs', h4, fun j u hj => ?_, hb⟩
   rw [h5 j (by have := (List.getElem?_eq_some_iff.1 hj).1; omega)]
   exact hj
  obtain ⟨xs, hxl, hxs⟩ : ∃ xs : List α, xs.length = len ∧ ∀ i (h : i < xs.length), ∃ cs' : List Value, cs'.length = k ∧ (∀ j u, cs'[j]? = some u → W.cell? ((a.add (i * k)).add j) = some u) ∧ AT (Al (sto W)) cs' (e0 xs[i]) := LK key
  have cell : ∀ m y j z, (xs.map e0)[m]? = some y → y[j]? = some z → ∃ v, W.cell? ⟨a.block, a.off + m * k + j, none⟩ = some v ∧ Al (sto W) v z := fun m y j z hy hz => by
   rw [List.getElem?_map, Option.map_eq_some_iff] at hy
   obtain ⟨b, hb', rfl⟩ := hy
   obtain ⟨hm', hbe⟩ := List.getElem?_eq_some_iff.1 hb'
   obtain ⟨cs', c1, c2, c3⟩ := hxs m hm'
   rw [hbe] at c3
   obtain ⟨v, v1, v2⟩ := c3.get hz
   refine ⟨v, ?_, v2⟩
   have := c2 j v v1
   have hsp := JB this
   rw [← this]
   congr 1
   have h7 : ((a.add (m * k)).add j).block = a.block ∧ ((a.add (m * k)).add j).off = a.off + m * k + j := by
    unfold Addr.add
    split <;> split <;> simp_all
   generalize (a.add (m * k)).add j = q at *
   cases q
   simp_all
  refine ⟨xs, .cons (.list (b := a.block) (o := a.off) (w := k) (fun m j => (W.cell? ⟨a.block, a.off + m * k + j, none⟩).getD undef) (by simp [hxl]) hl hm (by simp) (fun h0 => ?_) (fun y hy => ?_) (fun q1 q2 _ => absurd (hs q1) (by omega)) (fun m y j z hy hz => ?_) (fun m y j z hy hz => ?_)) .nil⟩
  ·obtain ⟨cs', h1, h2, h3⟩ := hxs 0 (by omega)
   have h4 : W.cell? a = some (cs'[0]'(by omega)) := by
    have := h2 0 _ (List.getElem?_eq_getElem (by omega))
    simpa [Addr.add] using this
   have := JB h4
   cases a
   simp_all
  ·obtain ⟨b, _, rfl⟩ := List.mem_map.1 hy
   exact hlen b
  ·obtain ⟨v, v1, v2⟩ := cell m y j z hy hz
   show W.cell? _ = _
   rw [v1]; rfl
  ·obtain ⟨v, v1, v2⟩ := cell m y j z hy hz
   rw [v1]; exact v2
theorem LQ {t : TypeId} (ht : P.underlying t = some (.int .i64)) (fuel : Nat) (cs : List Value) (x : DataW H × List MemPlace) (h : DataW.trod enc P W base sp hd fuel t cs = some x) : ∃ n : Int, AT (Al (sto W)) cs (LM n) := by
 obtain ⟨n, rfl, _, hn⟩ := DataW.trod_int ht h
 exact ⟨n, .cons (.int (by rw [Cp]; simpa [Lit.wf, IntKind.min, IntKind.max, IntKind.signed, IntKind.bits] using hn)) .nil⟩
theorem HC {t : TypeId} (ht : P.underlying t = some (.int .i64)) {r : Reach} {b0 : Nat} {v : Value} {d : DataW H} {p : List MemPlace} (hv : Value.okWide P W r b0 t v) (h : DataW.Trod enc P W base sp hd t v d p) : ∃ n : Int, AH (sto W) noS noH v (Ab n) := by
 obtain ⟨n, rfl⟩ := okWide_int ht hv
 obtain ⟨fuel, hf⟩ := h
 obtain ⟨m, hm⟩ := LQ ht fuel _ _ hf
 have : AT (Al (sto W)) [.int .i64 n] (LM m) := hm
 cases this with
 | cons h1 h2 => exact ⟨m, .one (.st h1)⟩
theorem PA {α : Type} {e0 : α → List SV} {t e : TypeId} {k : Nat} (ht : P.underlying t = some (.slice e)) (hc : P.cellsOf e = k) (hlen : ∀ a, (e0 a).length = k) (hk : 0 < k) {r : Reach} {b0 : Nat} {v : Value} {d : DataW H} {p : List MemPlace} (hv : Value.okWide P W r b0 t v)
  (f : ∀ (n : Nat) (cs : List Value) (y : DataW H × List MemPlace), DataW.trod enc P W base sp hd n e cs = some y → ∃ a : α, AT (Al (sto W)) cs (e0 a)) (h : DataW.Trod enc P W base sp hd t v d p) (hs : BU = true → k < 2 := by decide) : ∃ xs : List α, AH (sto W) noS noH v (.one (.st (.list (xs.map e0)))) := by
 obtain ⟨a, len, cap, rfl⟩ := okWide_slice ht hv
 obtain ⟨fuel, hf⟩ := h
 obtain ⟨xs, hxs⟩ := Jd ht hc hlen hk (fun n cs y _ hy => f n cs y hy) hf hs
 have : AT (Al (sto W)) [.slice a len cap] [.list (xs.map e0)] := hxs
 cases this with
 | cons h1 h2 => exact ⟨xs, .one (.st h1)⟩
end
theorem L6 {σ : Sto} (h : Ka = [] := by rfl) : Bl σ := fun x hx => by simp [h] at hx
theorem Kq {P : Program} {f : FuncId} {xs : List AV} {b : Bool} (h : AW P f xs (Aj b)) {σ : Sto} {w : World} {vs : List Value} (hg : Bl σ) (hf : Fit σ w) (hv : AT (AH σ noS noH) vs xs) :
  Calls P f vs.toArray w fun e w' => e = .returned (.bool b) ∧ Below w.heap.size w w' := (h σ w vs hg hf hv).mono fun e w' ⟨v, σ', he, hv, _, _, hb⟩ => by
 rw [Ce hv] at he
 exact ⟨he, hb⟩

section
variable {H : Type} {enc : TypeId × Value → H} {W : World} {sp : Nat → Bool} {hd : Bool} {base : Nat}
set_option maxRecDepth 100000 in
theorem PB {r : Reach} {b0 : Nat} {v : Value} {d : DataW H} {p : List MemPlace} (hv : Value.okWide Try.prog W r b0 22 v) (h : DataW.Trod enc Try.prog W base sp hd 22 v d p) : ∃ l : List Int, AH (sto W) noS noH v (EK l) :=
 PA (k := 1) Try.underlying22 (by kernel_rfl) (fun _ => rfl) (by decide) hv (LQ Try.underlying3) h
end

end Go.Proofs.Ytlgpchphdhdllaa
namespace Go.Proofs.Ytlgpchphdhdllaa.topEmbed
open Go Go.RowKit Go.ChangeShapes Go.WideShapes Go.ChangeAt
set_option linter.unusedVariables false
section
variable {H : Type} {enc : TypeId × Value → H} {P : Program} {w : World} {base : Nat} {spare : Nat → Bool} {held : Bool}
theorem IK {t t' t'' t3 t4 : TypeId} {args : Array Value} {ds : List (DataW H)} {ps : List MemPlace} (h : DataW.TrodAll enc P w base spare held [t, t', t'', t3, t4] args.toList ds ps) :
  ∃ v v' v'' v3 v4 d d' d'' d3 d4 p p' p'' p3 p4, args = #[v, v', v'', v3, v4] ∧ ds = [d, d', d'', d3, d4] ∧ ps = p ++ p' ++ p'' ++ p3 ++ p4 ∧ DataW.Trod enc P w base spare held t v d p ∧ DataW.Trod enc P w base spare held t' v' d' p' ∧ DataW.Trod enc P w base spare held t'' v'' d'' p'' ∧ DataW.Trod enc P w base spare held t3 v3 d3 p3 ∧ DataW.Trod enc P w base spare held t4 v4 d4 p4 := by
 obtain ⟨v, vs, d, ds', p, q, hargs, rfl, rfl, hd, hrest⟩ := trodAll_cons h
 obtain ⟨v', vs', d', ds'', p', q', rfl, rfl, rfl, hd', hrest'⟩ := trodAll_cons hrest
 obtain ⟨v'', vs'', d'', ds''', p'', q'', rfl, rfl, rfl, hd'', hrest''⟩ := trodAll_cons hrest'
 obtain ⟨v3, vs3, d3, ds3, p3, q3, rfl, rfl, rfl, hd3, hrest3⟩ := trodAll_cons hrest''
 obtain ⟨v4, vs4, d4, ds4, p4, q4, rfl, rfl, rfl, hd4, hrest4⟩ := trodAll_cons hrest3
 obtain ⟨rfl, rfl, rfl⟩ := trodAll_nil hrest4
 exact ⟨v, v', v'', v3, v4, d, d', d'', d3, d4, p, p', p'', p3, p4, by cases args; simp_all, rfl, by simp, hd, hd', hd'', hd3, hd4⟩
end
theorem own : ownKnob Try.prog.godebug = none := by kernel_rfl
theorem Rj : laidOutB Try.prog = true := by kernel_rfl
set_option maxRecDepth 100000 in
theorem Pn (H : Type) (enc : TypeId × Value → H) (W : World) (base : Nat) (args : Array Value) (ds gs : List (DataW H)) (before : List MemPlace)
  (hval : ∀ (j : Nat) t v, Try.f3.params[j]? = some t → args[j]? = some v → Value.okWide Try.prog W .any base t v)
  (hW : DataW.Whole enc Try.prog Try.f3.params.toList Rows.topEmbedSpec.vars false W args.toList ds gs before) :
  Calls Try.prog 3 args W fun e W' => ∃ v, e = .returned v ∧ Rows.topEmbedSpec.post enc Try.prog Try.f3 false true false false W args v W' := by
 obtain ⟨p, q, hA0, hV, rfl, hfz, hnd⟩ := id hW
 obtain ⟨rfl, rfl⟩ := trodVars_none hV
 have hA : DataW.TrodAll enc Try.prog W 0 (fun _ => true) true Try.f3.params.toList args.toList ds p := hA0
 rw [Try.params3] at hA hval
 obtain ⟨v0, v1, v2, v3, v4, d0, d1, d2, d3, d4, p0, p1, p2, p3, p4, hargs, rfl, rfl, h0, h1, h2, h3, h4⟩ := IK hA
 obtain rfl : args = #[v0, v1, v2, v3, v4] := by cases args; simp_all
 obtain ⟨l, r0⟩ := PB (hval 0 22 v0 rfl rfl) h0
 obtain ⟨m1, r1⟩ := HC Try.underlying3 (hval 1 3 v1 rfl rfl) h1
 obtain ⟨m2, r2⟩ := HC Try.underlying3 (hval 2 3 v2 rfl rfl) h2
 obtain ⟨m3, r3⟩ := HC Try.underlying3 (hval 3 3 v3 rfl rfl) h3
 obtain ⟨m4, r4⟩ := HC Try.underlying3 (hval 4 3 v4 rfl rfl) h4
 have k0 := Lz r0.known
 refine (Kq (Lo l m1 m2 m3 m4 k0.2 k0.1 r1.known r2.known r3.known r4.known) L6 (QE W) (vs := [v0, v1, v2, v3, v4]) (.cons r0 (.cons r1 (.cons r2 (.cons r3 (.cons r4 .nil)))))).mono fun e W' ⟨he, hb⟩ => ⟨_, he, ?_⟩
 exact Pv hW rfl rfl Try.underlying4 rfl rfl rfl Rj (by kernel_rfl) hb
set_option maxRecDepth 100000 in
theorem Q1 (os : Os) (started : os.Started) (H : Type) (enc : TypeId × Value → H) :
  ReturnsInHanded {} Try.checked os 3 .any (Rows.topEmbedSpec.pre6 enc Try.prog Try.f3 Rows.topEmbedRow.domain false) (Rows.topEmbedSpec.post enc Try.prog Try.f3 false true false false) := by
 refine returnsInHanded_of_change (C := Try.checked) own started (by kernel_rfl) Try.func3
  (ChangeSpec.witness6 (enc := enc) (C := Try.checked) false ⟨#[], #[.slice none 0 0, .int .i64 0, .int .i64 0, .int .i64 0, .int .i64 0], []⟩ 8 (by kernel_rfl) (by kernel_rfl) (by kernel_rfl) (by kernel_rfl)) ?_
 intro W base args ds gs before hval hW _ _
 exact Pn H enc W base args ds gs before hval hW
theorem proved : Rows.TopEmbedSaid :=
 OpenClaim.holds_of_wide 3 Try.f3 rfl rfl rfl rfl rfl rfl rfl ⟨rfl, rfl, rfl, rfl, rfl⟩ rfl rfl rfl rfl rfl (by kernel_rfl) Try.func3 (by kernel_rfl)
  (of_decide_eq_true (by kernel_rfl)) (by unfold Func.isWrapper; first | (rw [if_pos (by decide +kernel)]; kernel_rfl) | (rw [if_neg (by decide +kernel)]; exact ⟨rfl, rfl⟩))
  (fun os started H enc _ => Q1 os started H enc)

end Go.Proofs.Ytlgpchphdhdllaa.topEmbed
