/-
  Proved: for terms made of raw numbers, both orders give what the document says, either way round, and against an instance: the law OrderMade returns true. Conditions: none.
-/
import Derived.Test.YtdlbfdcklpleaaaOMd7
import Derived.Test.YtdlbfdcklpleaaaRows
import Derived.ProofKit
import Derived.OpenShut
import Derived.JoinedCond
import Derived.Deep.Slices
namespace Go.Proofs.Ytdlbfdcklpleaaa
open Go Go.RowKit
set_option linter.unusedVariables false
set_option linter.unusedSimpArgs false
set_option maxHeartbeats 1000000
def D7 (row : List ByteArray) (cs ds : List SV) (x : SV) : Prop := ∃ a b, cs = BI a ∧ ds = BI b ∧ x = .bool (paB row a b)
def Fn (row : List ByteArray) (m : Nat) : AJ := .box 71 [.st (.list (row.map FV)), .mptr m]
abbrev GV (t : Tm) : AV := .one (.eptr [.str t.name, .list (t.args.map BI)])
theorem OS {row : List ByteArray} {a b : Tm} {cs ds : List SV} {x : SV} (h1 : M5 (BI a) cs) (h2 : M5 (BI b) ds) (h : D7 row cs ds x) : x = .bool (paB row a b) := by
 obtain ⟨a', b', rfl, rfl, rfl⟩ := h
 rw [Lw h1, Lw h2]
def Ft (row : List ByteArray) (a b : Tm) : Prop := ∀ (p m : Nat) (S : AA), 1000 ≤ p → 1000 ≤ m → S p = some (Fn row m) → S m = some (.memo (D7 row)) →
 BE Try.prog 45 [.one (.ptr p 1 0 0), GV a, GV b] S (Ag (paB row a b)) S
def Pq (row : List ByteArray) (a b : Tm) : Prop := ∀ (p m : Nat) (S : AA), 1000 ≤ p → 1000 ≤ m → S p = some (Fn row m) → S m = some (.memo (D7 row)) →
 BE Try.prog 53 [.one (.ptr p 1 0 0), GV a, GV b] S (Ag (paB row a b)) S
theorem O6 {row : List ByteArray} {a b : Tm} (hask : AW a.name = false → Pq row a b) : Ft row a b := fun p m S hp hm sp sm => by
 refine CE.acS fun hS C hC => ?_
 unfold BO
 have n7 : S 7 = none := Bq hS (by omega)
 have p7 : ¬ p = 7 := by omega
 have m7 : ¬ m = 7 := by omega
 unfold Fn at sp
 cases hv : AW a.name with
 | true =>
  repeat' (first | (with_reducible first | refine W ?_ | refine Z0 ?_ | ((first | refine Wo fun K hK => ?_ | refine Wp ?_ | refine Wq ?_ | refine Wr ?_); (try simp only [go_sem, fN, seval, eT, iR, hv, dT, dF, nL]); (repeat refine Ai ?_); (try (refine hK _ ?_; clear hK K)); try refine iC ?_)) | refine Cg _ (A1 a.name) ?_)
  refine Ak (Ag false) hS trivial ?_ ?_ fun _ _ => rfl
  ·simp only [go_sem, fN, seval, eT, iR, AB, AD, AI]
  ·simp only [go_sem, fN, seval, eT, iR]
   rw [L4 hv]
 | false =>
  repeat' (first | (with_reducible first | refine W ?_ | refine Z0 ?_ | ((first | refine Wo fun K hK => ?_ | refine Wp ?_ | refine Wq ?_ | refine Wr ?_); (try simp only [go_sem, fN, seval, eT, iR, hv, n7, p7, m7, sp, sm, AS.caps, DC, Fv, Kn, dT, dF, nL]); (repeat refine Ai ?_); (try (refine hK _ ?_; clear hK K)); try refine iC ?_)) | refine Cg _ (A1 a.name) ?_)
  refine ⟨rfl, ?_, fun cs' ds' x t1 t2 hf => ?_⟩
  ·refine hK _ ?_
   clear hK K
   refine Wb ?_
   repeat' with_reducible first | refine W ?_ | refine Z0 ?_ | ((first | refine Wo fun K hK => ?_ | refine Wp ?_ | refine Wq ?_ | refine Wr ?_); (try simp only [go_sem, fN, seval, eT, iR, hv, n7, p7, m7, sp, sm, dT, dF, nL]); (repeat refine Ai ?_); (try (refine hK _ ?_; clear hK K)); try refine iC ?_)
   refine ⟨_, [(p, Fn row m), (m, .memo (D7 row))], fun q hq => ?_, fun T hT => hask hv (up1 p) (up1 m) (upS T) (BL p) (BL m) (by rw [CF, hT (p, Fn row m) (by simp)]; rfl) (by rw [CF, hT (m, .memo (D7 row)) (by simp)]; rfl), ?_⟩
   ·simp only [List.mem_cons, List.not_mem_nil, or_false] at hq
    rcases hq with rfl | rfl
    ·simp only [go_sem, fN, seval, eT, iR, p7, sp, Fn]
    ·simp only [go_sem, fN, seval, eT, iR, m7, sm]
   repeat' with_reducible first | refine W ?_ | refine Z0 ?_ | ((first | refine Wo fun K hK => ?_ | refine Wp ?_ | refine Wq ?_ | refine Wr ?_); (try simp only [go_sem, fN, seval, eT, iR, hv, n7, p7, m7, sp, sm, AS.caps, DC, Fv, dT, dF, nL]); (repeat refine Ai ?_); (try (refine hK _ ?_; clear hK K)); try refine iC ?_)
   refine ⟨rfl, ⟨a, b, (Ac a).symm, (Ac b).symm, rfl⟩, ?_⟩
   refine hK _ ?_
   clear hK K
   refine Wb ?_
   repeat' with_reducible first | refine W ?_ | refine Z0 ?_ | ((first | refine Wo fun K hK => ?_ | refine Wp ?_ | refine Wq ?_ | refine Wr ?_); (try simp only [go_sem, fN, seval, eT, iR, n7, dT, dF, nL]); (repeat refine Ai ?_); (try (refine hK _ ?_; clear hK K)); try refine iC ?_)
   refine Ak (Ag (paB row a b)) hS trivial ?_ ?_ fun k hk => ?_
   ·simp only [go_sem, fN, seval, eT, iR, AB, AD, AI]
   ·rfl
   ·have k7 : ¬ k = 7 := by omega
    simp only [go_sem, fN, seval, eT, iR, k7]
  ·have hx := OS (a := a) (b := b) (by rw [Ac]; exact t1) (by rw [Ac]; exact t2) hf
   subst hx
   refine hK _ ?_
   clear hK K
   refine Wb ?_
   repeat' with_reducible first | refine W ?_ | refine Z0 ?_ | ((first | refine Wo fun K hK => ?_ | refine Wp ?_ | refine Wq ?_ | refine Wr ?_); (try simp only [go_sem, fN, seval, eT, iR, hv, n7, p7, m7, sp, sm, dT, dF, nL]); (repeat refine Ai ?_); (try (refine hK _ ?_; clear hK K)); try refine iC ?_)
   refine Ak (Ag (paB row a b)) hS trivial ?_ ?_ fun k hk => ?_
   ·simp only [go_sem, fN, seval, eT, iR, AB, AD, AI]
   ·rfl
   ·have k7 : ¬ k = 7 := by omega
    simp only [go_sem, fN, seval, eT, iR, k7]
theorem JN {a b : Tm} : a.beq b = true ↔ a = b := Tm.beq_iff a b
theorem Pt {row : List ByteArray} {a b : Tm} (hv : AW a.name = false) (ha : a.size ≤ 1000000) (hb : b.size ≤ 1000000) (ih1 : ∀ x ∈ a.args, Ft row x b) (ih2 : ∀ y ∈ b.args, Ft row a y) (ih3 : ∀ x ∈ a.args, ∀ y ∈ b.args, Ft row x y) : Pq row a b := fun p m S hp hm sp sm => by
 refine CY.acS fun hS C hC => ?_
 unfold BS
 have hla := Tm.length_le a.args
 have hlb := Tm.length_le b.args
 have hsa := Tm.size_eq a
 have hsb := Tm.size_eq b
 have sp0 := sp
 unfold Fn at sp
 have rows : ∀ q ∈ [(p, Fn row m), (m, AJ.memo (D7 row))], S q.1 = some q.2 := fun q hq => by
  simp only [List.mem_cons, List.not_mem_nil, or_false] at hq
  rcases hq with rfl | rfl
  ·exact sp0
  ·exact sm
 have call : ∀ x y : Tm, Ft row x y → ∀ T : AA, (∀ q ∈ [(p, Fn row m), (m, AJ.memo (D7 row))], T q.1 = some q.2) → BE Try.prog 45 [.one (.ptr (up1 p) 1 0 0), GV x, GV y] (upS T) (Ag (paB row x y)) (upS T) := fun x y h T hT =>
  h (up1 p) (up1 m) (upS T) (BL p) (BL m) (by rw [CF, hT (p, Fn row m) (by simp)]; rfl) (by rw [CF, hT (m, .memo (D7 row)) (by simp)]; rfl)
 repeat' with_reducible first | refine W ?_ | refine Z0 ?_ | ((first | refine Wo fun K hK => ?_ | refine Wp ?_ | refine Wq ?_ | refine Wr ?_); (try simp only [go_sem, fN, seval, eT, iR, dT, dF, nL]); (repeat refine Ai ?_); (try (refine hK _ ?_; clear hK K)); try refine iC ?_)
 refine IWP.loop (fun n s => ∃ k, k ≤ a.args.length ∧ n = a.args.length - k ∧ (∀ x ∈ a.args.take k, x ≠ b ∧ paB row x b = false) ∧ s.env 0 = .one (.ptr p 1 0 0) ∧ s.env 1 = GV a ∧ s.env 2 = GV b ∧ s.env 6 = Ag false ∧ s.env 15 = AR a.args.length ∧ s.env 16 = AR k ∧ s.S = S) a.args.length ⟨0, Nat.zero_le _, rfl, by simp, by (simp only [go_sem, fN, seval, eT, iR]), by (simp only [go_sem, fN, seval, eT, iR]), by (simp only [go_sem, fN, seval, eT, iR]), by (simp only [go_sem, fN, seval, eT, iR]), by (simp only [go_sem, fN, seval, eT, iR]), by (simp only [go_sem, fN, seval, eT, iR]), rfl⟩ ?_
 rintro n ⟨env, S1⟩ ⟨k, hk, rfl, hno, e0, e1, e2, e6, e15, e16, hS1⟩
 simp only at e0 e1 e2 e6 e15 e16 hS1
 subst hS1
 by_cases hlt : (k : Int) < a.args.length
 ·obtain ⟨x, hx⟩ := Aj (show k < a.args.length by omega)
  have hxm := Ae hx
  cases hxb : x.beq b with
  | true =>
   repeat' (first | (with_reducible first | refine W ?_ | refine Z0 ?_ | ((first | refine Wo fun K hK => ?_ | refine Wp ?_ | refine Wq ?_ | refine Wr ?_); (try simp only [go_sem, fN, seval, eT, iR, e0, e1, e2, e6, e15, e16, hlt, hx, hxb, Ac, dT, dF, nL]); (repeat refine Ai ?_); (try (refine hK _ ?_; clear hK K)); try refine iC ?_)) | refine Cg _ (G1 x b) ?_)
   refine Ak (Ag true) hS trivial ?_ ?_ fun _ _ => rfl
   ·simp only [go_sem, fN, seval, eT, iR, AB, AD, AI]
   ·simp only [go_sem, fN, seval, eT, iR]
    rw [GY hv hxm (.inl (JN.1 hxb))]
  | false =>
   repeat' (first | (with_reducible first | refine W ?_ | refine Z0 ?_ | ((first | refine Wo fun K hK => ?_ | refine Wp ?_ | refine Wq ?_ | refine Wr ?_); (try simp only [go_sem, fN, seval, eT, iR, e0, e1, e2, e6, e15, e16, hlt, hx, hxb, Ac, dT, dF, nL]); (repeat refine Ai ?_); (try (refine hK _ ?_; clear hK K)); try refine iC ?_)) | refine Cg _ (G1 x b) ?_)
   refine ⟨_, _, rows, call x b (ih1 x hxm), ?_⟩
   cases hp1 : paB row x b with
   | true =>
    repeat' with_reducible first | refine W ?_ | refine Z0 ?_ | ((first | refine Wo fun K hK => ?_ | refine Wp ?_ | refine Wq ?_ | refine Wr ?_); (try simp only [go_sem, fN, seval, eT, iR, e0, e1, e2, e6, e15, e16, hlt, hx, hxb, hp1, Ac, dT, dF, nL]); (repeat refine Ai ?_); (try (refine hK _ ?_; clear hK K)); try refine iC ?_)
    refine Ak (Ag true) hS trivial ?_ ?_ fun _ _ => rfl
    ·simp only [go_sem, fN, seval, eT, iR, AB, AD, AI]
    ·simp only [go_sem, fN, seval, eT, iR]
     rw [GY hv hxm (.inr hp1)]
   | false =>
    repeat' with_reducible first | refine W ?_ | refine Z0 ?_ | ((first | refine Wo fun K hK => ?_ | refine Wp ?_ | refine Wq ?_ | refine Wr ?_); (try simp only [go_sem, fN, seval, eT, iR, e0, e1, e2, e6, e15, e16, hlt, hx, hxb, hp1, Ac, dT, dF, nL]); (repeat refine Ai ?_); (try (refine hK _ ?_; clear hK K)); try refine iC ?_)
    refine AH ⟨a.args.length - (k + 1), by omega, k + 1, by omega, rfl, fun y hy => ?_, ?_⟩
    ·rw [Aa hx, List.mem_append, List.mem_singleton] at hy
     rcases hy with hy | rfl
     ·exact hno y hy
     ·exact ⟨fun e => (by rw [JN.2 e] at hxb; cases hxb), hp1⟩
    ·simp only [go_sem, fN, seval, eT, iR, e0, e1, e2, e6, e15, e16]
     congr 3
 ·rw [List.take_of_length_le (by omega)] at hno
  repeat' with_reducible first | refine W ?_ | refine Z0 ?_ | ((first | refine Wo fun K hK => ?_ | refine Wp ?_ | refine Wq ?_ | refine Wr ?_); (try simp only [go_sem, fN, seval, eT, iR, e0, e1, e2, e6, e15, e16, hlt, Ac, dT, dF, nL]); (repeat refine Ai ?_); (try (refine hK _ ?_; clear hK K)); try refine iC ?_)
  refine ⟨_, A1 b.name, ?_⟩
  cases hvb : AW b.name with
  | true =>
   repeat' with_reducible first | refine W ?_ | refine Z0 ?_ | ((first | refine Wo fun K hK => ?_ | refine Wp ?_ | refine Wq ?_ | refine Wr ?_); (try simp only [go_sem, fN, seval, eT, iR, e0, e1, e2, e6, hvb, Ac, dT, dF, nL]); (repeat refine Ai ?_); (try (refine hK _ ?_; clear hK K)); try refine iC ?_)
   refine Ak (Ag false) hS trivial ?_ ?_ fun _ _ => rfl
   ·simp only [go_sem, fN, seval, eT, iR, AB, AD, AI]
   ·simp only [go_sem, fN, seval, eT, iR]
    rw [DM hv hno (.inl hvb)]
  | false =>
   repeat' with_reducible first | refine W ?_ | refine Z0 ?_ | ((first | refine Wo fun K hK => ?_ | refine Wp ?_ | refine Wq ?_ | refine Wr ?_); (try simp only [go_sem, fN, seval, eT, iR, e0, e1, e2, e6, hvb, sp, Ac, dT, dF, nL]); (repeat refine Ai ?_); (try (refine hK _ ?_; clear hK K)); try refine iC ?_)
   refine ⟨_, F6 row a b, ?_⟩
   by_cases hsy : Aw row a b < 0
   ·repeat' with_reducible first | refine W ?_ | refine Z0 ?_ | ((first | refine Wo fun K hK => ?_ | refine Wp ?_ | refine Wq ?_ | refine Wr ?_); (try simp only [go_sem, fN, seval, eT, iR, e0, e1, e2, e6, hvb, hsy, Ac, dT, dF, nL]); (repeat refine Ai ?_); (try (refine hK _ ?_; clear hK K)); try refine iC ?_)
    refine Ak (Ag false) hS trivial ?_ ?_ fun _ _ => rfl
    ·simp only [go_sem, fN, seval, eT, iR, AB, AD, AI]
    ·simp only [go_sem, fN, seval, eT, iR]
     rw [DM hv hno (.inr (.inl hsy))]
   ·repeat' with_reducible first | refine W ?_ | refine Z0 ?_ | ((first | refine Wo fun K hK => ?_ | refine Wp ?_ | refine Wq ?_ | refine Wr ?_); (try simp only [go_sem, fN, seval, eT, iR, e0, e1, e2, e6, hvb, hsy, Ac, dT, dF, nL]); (repeat refine Ai ?_); (try (refine hK _ ?_; clear hK K)); try refine iC ?_)
    refine IWP.loop (fun n s => ∃ j, j ≤ b.args.length ∧ n = b.args.length - j ∧ (∀ y ∈ b.args.take j, paB row a y = true) ∧ s.env 0 = .one (.ptr p 1 0 0) ∧ s.env 1 = GV a ∧ s.env 2 = GV b ∧ s.env 6 = Ag false ∧ s.env 8 = AR (Aw row a b) ∧ s.env 64 = AR b.args.length ∧ s.env 65 = AR j ∧ s.S = S1) b.args.length ⟨0, Nat.zero_le _, rfl, by simp, by (simp only [go_sem, fN, seval, eT, iR, e0]), by (simp only [go_sem, fN, seval, eT, iR, e1]), by (simp only [go_sem, fN, seval, eT, iR, e2]), by (simp only [go_sem, fN, seval, eT, iR, e6]), by (simp only [go_sem, fN, seval, eT, iR]), by (simp only [go_sem, fN, seval, eT, iR]), by (simp only [go_sem, fN, seval, eT, iR]), rfl⟩ ?_
    clear e0 e1 e2 e6 e15 e16 hlt
    rintro n ⟨env, S2⟩ ⟨j, hj, rfl, hall, e0, e1, e2, e6, e8, e64, e65, hS2⟩
    simp only at e0 e1 e2 e6 e8 e64 e65 hS2
    subst hS2
    by_cases hlt : (j : Int) < b.args.length
    ·obtain ⟨y, hy⟩ := Aj (show j < b.args.length by omega)
     have hym := Ae hy
     repeat' with_reducible first | refine W ?_ | refine Z0 ?_ | ((first | refine Wo fun K hK => ?_ | refine Wp ?_ | refine Wq ?_ | refine Wr ?_); (try simp only [go_sem, fN, seval, eT, iR, e0, e1, e2, e6, e8, e64, e65, hlt, hy, Ac, dT, dF, nL]); (repeat refine Ai ?_); (try (refine hK _ ?_; clear hK K)); try refine iC ?_)
     refine ⟨_, _, rows, call a y (ih2 y hym), ?_⟩
     cases hq : paB row a y with
     | false =>
      repeat' with_reducible first | refine W ?_ | refine Z0 ?_ | ((first | refine Wo fun K hK => ?_ | refine Wp ?_ | refine Wq ?_ | refine Wr ?_); (try simp only [go_sem, fN, seval, eT, iR, e0, e1, e2, e6, e8, e64, e65, hlt, hy, hq, Ac, dT, dF, nL]); (repeat refine Ai ?_); (try (refine hK _ ?_; clear hK K)); try refine iC ?_)
      refine Ak (Ag false) hS trivial ?_ ?_ fun _ _ => rfl
      ·simp only [go_sem, fN, seval, eT, iR, AB, AD, AI]
      ·simp only [go_sem, fN, seval, eT, iR]
       rw [DM hv hno (.inr (.inr ⟨y, hym, hq⟩))]
     | true =>
      repeat' with_reducible first | refine W ?_ | refine Z0 ?_ | ((first | refine Wo fun K hK => ?_ | refine Wp ?_ | refine Wq ?_ | refine Wr ?_); (try simp only [go_sem, fN, seval, eT, iR, e0, e1, e2, e6, e8, e64, e65, hlt, hy, hq, Ac, dT, dF, nL]); (repeat refine Ai ?_); (try (refine hK _ ?_; clear hK K)); try refine iC ?_)
      refine AH ⟨b.args.length - (j + 1), by omega, j + 1, by omega, rfl, fun u hu => ?_, ?_⟩
      ·rw [Aa hy, List.mem_append, List.mem_singleton] at hu
       rcases hu with hu | rfl
       ·exact hall u hu
       ·exact hq
      ·simp only [go_sem, fN, seval, eT, iR, e0, e1, e2, e6, e8, e64, e65]
       congr 3
    ·rw [List.take_of_length_le (by omega)] at hall
     by_cases hgt : 0 < Aw row a b
     ·repeat' with_reducible first | refine W ?_ | refine Z0 ?_ | ((first | refine Wo fun K hK => ?_ | refine Wp ?_ | refine Wq ?_ | refine Wr ?_); (try simp only [go_sem, fN, seval, eT, iR, e0, e1, e2, e6, e8, e64, e65, hlt, hgt, Ac, dT, dF, nL]); (repeat refine Ai ?_); (try (refine hK _ ?_; clear hK K)); try refine iC ?_)
      refine Ak (Ag true) hS trivial ?_ ?_ fun _ _ => rfl
      ·simp only [go_sem, fN, seval, eT, iR, AB, AD, AI]
      ·simp only [go_sem, fN, seval, eT, iR]
       rw [Nt hv hvb hgt hall]
     ·have hz : Aw row a b = 0 := by omega
      have hll := (CI.1 hz).2
      repeat' with_reducible first | refine W ?_ | refine Z0 ?_ | ((first | refine Wo fun K hK => ?_ | refine Wp ?_ | refine Wq ?_ | refine Wr ?_); (try simp only [go_sem, fN, seval, eT, iR, e0, e1, e2, e6, e8, e64, e65, hlt, hgt, Ac, dT, dF, nL]); (repeat refine Ai ?_); (try (refine hK _ ?_; clear hK K)); try refine iC ?_)
      refine IWP.loop (fun n s => ∃ i, i ≤ a.args.length ∧ n = a.args.length - i ∧ a.args.take i = b.args.take i ∧ s.env 0 = .one (.ptr p 1 0 0) ∧ s.env 1 = GV a ∧ s.env 2 = GV b ∧ s.env 6 = Ag false ∧ s.env 85 = AR a.args.length ∧ s.env 86 = AR i ∧ s.S = S2) a.args.length ⟨0, Nat.zero_le _, rfl, by simp, by (simp only [go_sem, fN, seval, eT, iR, e0]), by (simp only [go_sem, fN, seval, eT, iR, e1]), by (simp only [go_sem, fN, seval, eT, iR, e2]), by (simp only [go_sem, fN, seval, eT, iR, e6]), by (simp only [go_sem, fN, seval, eT, iR]), by (simp only [go_sem, fN, seval, eT, iR]), rfl⟩ ?_
      clear e0 e1 e2 e6 e8 e64 e65 hlt
      rintro n ⟨env, S3⟩ ⟨i, hi, rfl, hpre, e0, e1, e2, e6, e85, e86, hS3⟩
      simp only at e0 e1 e2 e6 e85 e86 hS3
      subst hS3
      by_cases hlt : (i : Int) < a.args.length
      ·obtain ⟨x, hx⟩ := Aj (show i < a.args.length by omega)
       obtain ⟨y, hy⟩ := Aj (show i < b.args.length by omega)
       repeat' with_reducible first | refine W ?_ | refine Z0 ?_ | ((first | refine Wo fun K hK => ?_ | refine Wp ?_ | refine Wq ?_ | refine Wr ?_); (try simp only [go_sem, fN, seval, eT, iR, e0, e1, e2, e6, e85, e86, hlt, hx, hy, Ac, dT, dF, nL]); (repeat refine Ai ?_); (try (refine hK _ ?_; clear hK K)); try refine iC ?_)
       refine ⟨_, G1 x y, ?_⟩
       cases hxy : x.beq y with
       | true =>
        repeat' with_reducible first | refine W ?_ | refine Z0 ?_ | ((first | refine Wo fun K hK => ?_ | refine Wp ?_ | refine Wq ?_ | refine Wr ?_); (try simp only [go_sem, fN, seval, eT, iR, e0, e1, e2, e6, e85, e86, hlt, hx, hy, hxy, Ac, dT, dF, nL]); (repeat refine Ai ?_); (try (refine hK _ ?_; clear hK K)); try refine iC ?_)
        refine AH ⟨a.args.length - (i + 1), by omega, i + 1, by omega, rfl, ?_, ?_⟩
        ·rw [Aa hx, Aa hy, hpre, JN.1 hxy]
        ·simp only [go_sem, fN, seval, eT, iR, e0, e1, e2, e6, e85, e86]
         congr 3
       | false =>
        repeat' with_reducible first | refine W ?_ | refine Z0 ?_ | ((first | refine Wo fun K hK => ?_ | refine Wp ?_ | refine Wq ?_ | refine Wr ?_); (try simp only [go_sem, fN, seval, eT, iR, e0, e1, e2, e6, e85, e86, hlt, hx, hy, hxy, Ac, dT, dF, nL]); (repeat refine Ai ?_); (try (refine hK _ ?_; clear hK K)); try refine iC ?_)
        refine ⟨_, _, rows, call x y (ih3 x (Ae hx) y (Ae hy)), ?_⟩
        repeat' with_reducible first | refine W ?_ | refine Z0 ?_ | ((first | refine Wo fun K hK => ?_ | refine Wp ?_ | refine Wq ?_ | refine Wr ?_); (try simp only [go_sem, fN, seval, eT, iR, e0, e1, e2, e6, e85, e86, hlt, hx, hy, hxy, Ac, dT, dF, nL]); (repeat refine Ai ?_); (try (refine hK _ ?_; clear hK K)); try refine iC ?_)
        refine Ak (Ag (paB row x y)) hS trivial ?_ ?_ fun _ _ => rfl
        ·simp only [go_sem, fN, seval, eT, iR, AB, AD, AI]
        ·rw [IH hv hvb hno hz hall hpre hx hy fun e => by rw [JN.2 e] at hxy; cases hxy]
         rfl
      ·have hae : a.args = b.args := by
        rw [List.take_of_length_le (by omega), List.take_of_length_le (by omega)] at hpre
        exact hpre
       repeat' with_reducible first | refine W ?_ | refine Z0 ?_ | ((first | refine Wo fun K hK => ?_ | refine Wp ?_ | refine Wq ?_ | refine Wr ?_); (try simp only [go_sem, fN, seval, eT, iR, e0, e1, e2, e6, e85, e86, hlt, Ac, dT, dF, nL]); (repeat refine Ai ?_); (try (refine hK _ ?_; clear hK K)); try refine iC ?_)
       refine Ak (Ag false) hS trivial ?_ ?_ fun _ _ => rfl
       ·simp only [go_sem, fN, seval, eT, iR, AB, AD, AI, e6]
       ·simp only [go_sem, fN, seval, eT, iR]
        rw [Jb hv hno hz hae]
theorem Ec (row : List ByteArray) : ∀ (N : Nat) (a b : Tm), SizeOf.sizeOf a + SizeOf.sizeOf b < N → a.size ≤ 1000000 → b.size ≤ 1000000 → Ft row a b
 | 0, _, _, h, _, _ => absurd h (Nat.not_lt_zero _)
 | N + 1, a, b, h, ha, hb => O6 fun hv => Pt hv ha hb
   (fun x hx => Ec row N x b (by have := Tm.lt_of_arg hx; omega) (by have := Tm.size_mem hx; have := Tm.size_eq a; omega) hb)
   (fun y hy => Ec row N a y (by have := Tm.lt_of_arg hy; omega) ha (by have := Tm.size_mem hy; have := Tm.size_eq b; omega))
   (fun x hx y hy => Ec row N x y (by have := Tm.lt_of_arg hx; have := Tm.lt_of_arg hy; omega) (by have := Tm.size_mem hx; have := Tm.size_eq a; omega) (by have := Tm.size_mem hy; have := Tm.size_eq b; omega))
def ME (t : Tm) : AJ := .box 25 ([SV.str t.name, SV.list (t.args.map BI)].map .st)
theorem Nk (row : List ByteArray) (a b : Tm) (ha : a.size ≤ 1000000) (hb : b.size ≤ 1000000) : AQ Try.prog 37 [At row, aTm a, aTm b] (Ag (paB row a b)) := by
 refine G_.ac fun C hC => ?_
 unfold ED
 refine IWP.mid (fun x => x.env 0 = At row ∧ x.env 4 = .one (.ptr 4 1 0 0) ∧ x.env 5 = .one (.ptr 5 1 0 0) ∧ x.S = AP (AP noS 4 (some (ME a))) 5 (some (ME b))) ?_ ?_
 ·repeat' with_reducible first | refine W ?_ | refine Z0 ?_ | ((first | refine Wo fun K hK => ?_ | refine Wq ?_ | refine Wr ?_); (try simp only [go_sem, fN, seval, eT, iR, Ac]); (repeat refine Ai ?_); (try (refine hK _ ?_; clear hK K)))
  exact ⟨rfl, rfl, rfl, rfl, rfl⟩
 rintro ⟨env, S⟩ ⟨e0, e4, e5, hS⟩
 simp only at e0 e4 e5 hS
 subst hS
 refine IWP.mid (fun x => x.env 4 = .one (.ptr 4 1 0 0) ∧ x.env 5 = .one (.ptr 5 1 0 0) ∧ x.env 7 = .one (.ptr 11 1 0 0) ∧ x.S = AP (AP (AP (AP noS 4 (some (ME a))) 5 (some (ME b))) 9 (some (.memo fun _ _ _ => False))) 11 (some (Fn row 9))) ?_ ?_
 ·repeat' with_reducible first | refine W ?_ | refine Z0 ?_ | ((first | refine Wo fun K hK => ?_ | refine Wq ?_ | refine Wr ?_); (try simp only [go_sem, fN, seval, eT, iR, e0, e4, e5, Ac]); (repeat refine Ai ?_); (try (refine hK _ ?_; clear hK K)))
  exact ⟨rfl, e4, e5, rfl, rfl⟩
 rintro ⟨env, S⟩ ⟨e4, e5, e7, hS⟩
 simp only at e4 e5 e7 hS
 subst hS
 refine IWP.ghost (Al.memoWeak (id := 9) (f' := D7 row) rfl fun _ _ _ h => h.elim) ?_
 refine IWP.ghost (Al.freeze 4 [4] (ty := 25) (xs := [SV.str a.name, SV.list (a.args.map BI)]) rfl (Nat.succ_pos _) (fun t ht => by rw [List.mem_singleton] at ht; subst ht; exact e4)) ?_
 refine IWP.ghost (Al.freeze 5 [5] (ty := 25) (xs := [SV.str b.name, SV.list (b.args.map BI)]) rfl (Nat.succ_pos _) (fun t ht => by rw [List.mem_singleton] at ht; subst ht; exact e5)) ?_
 repeat' with_reducible first | refine W ?_ | refine Z0 ?_ | ((first | refine Wo fun K hK => ?_ | refine Wp ?_ | refine Wq ?_ | refine Wr ?_); (try simp only [go_sem, fN, seval, eT, iR, e4, e5, e7, AS.set, List.mem_singleton, dT, dF, nL]); (repeat refine Ai ?_); (try (refine hK _ ?_; clear hK K)); try refine iC ?_)
 refine ⟨_, [(11, Fn row 9), (9, .memo (D7 row))], fun q hq => ?_, fun T hT => Ec row _ a b (Nat.lt_succ_self _) ha hb (up1 11) (up1 9) (upS T) (BL _) (BL _) (by rw [CF, hT (11, Fn row 9) (by simp)]; rfl) (by rw [CF, hT (9, .memo (D7 row)) (by simp)]; rfl), ?_⟩
 ·simp only [List.mem_cons, List.not_mem_nil, or_false] at hq
  rcases hq with rfl | rfl <;> rfl
 repeat' with_reducible first | refine W ?_ | refine Z0 ?_ | ((first | refine Wo fun K hK => ?_ | refine Wp ?_ | refine Wq ?_ | refine Wr ?_); (try simp only [go_sem, fN, seval, eT, iR, e4, e5, e7, AS.set, List.mem_singleton, dT, dF, nL]); (repeat refine Ai ?_); (try (refine hK _ ?_; clear hK K)); try refine iC ?_)
 simp only [go_sem, fN, seval, AM, AS.result, AB, AD, AI]
noncomputable def E_ (row : List ByteArray) (a b : Tm) : Bool := if Bb row a b = 0 then paB row a b else false
theorem Kk (row : List ByteArray) (a b : Tm) : AQ Try.prog 20 [At row, aTm a, aTm b] (.tup [Ag (E_ row a b), AR (Bb row a b)]) := by
 unfold E_
 refine Hq.ac fun C hC => ?_
 unfold Ew
 by_cases h : Bb row a b = 0
 ·obtain ⟨_, h1, h2⟩ := FY h
  have z1 := (Tm.may_chk h1).2
  have z2 := (Tm.may_chk h2).2
  repeat' (first | (with_reducible first | refine W ?_ | refine Z0 ?_ | ((first | refine Wo fun K hK => ?_ | refine Wp ?_ | refine Wq ?_ | refine Wr ?_); (try simp only [go_sem, fN, seval, eT, iR, h, dT, dF, nL]); (repeat refine Ai ?_); (try (refine hK _ ?_; clear hK K)); try refine iC ?_)) | refine Cg _ (C9 row a b) ?_ | refine Cg _ (Nk row a b (by omega) (by omega)) ?_)
  simp only [go_sem, fN, seval, AM, AS.result, AB, AD, AI, h]
  try rfl
 ·repeat' (first | (with_reducible first | refine W ?_ | refine Z0 ?_ | ((first | refine Wo fun K hK => ?_ | refine Wp ?_ | refine Wq ?_ | refine Wr ?_); (try simp only [go_sem, fN, seval, eT, iR, h, dT, dF, nL]); (repeat refine Ai ?_); (try (refine hK _ ?_; clear hK K)); try refine iC ?_)) | refine Cg _ (C9 row a b) ?_)
  simp only [go_sem, fN, seval, AM, AS.result, AB, AD, AI, h]
  try rfl

set_option maxHeartbeats 4000000
theorem Ke (t : Tm) (v : ByteArray) (hz : t.size ≤ 1000000) : AQ Try.prog 33 [aTm t, CQ v] (AR (t.occN v)) := by
 have hkl := Tm.knots_length t
 have hKn := Cc t hz
 rw [← FJ]
 generalize t.knots = l at *
 refine LV.ac fun C hC => ?_
 unfold G7
 repeat' (first | (with_reducible first | refine W ?_ | refine Z0 ?_ | ((first | refine Wo fun K hK => ?_ | refine Wp ?_ | refine Wq ?_ | refine Wr ?_); (try simp only [go_sem, fN, seval, eT, iR, dT, dF, nL]); (repeat refine Ai ?_); (try (refine hK _ ?_; clear hK K)); try refine iC ?_)) | refine Cg _ (hKn) ?_)
 refine IWP.loop (fun n s => ∃ k, k ≤ l.length ∧ n = l.length - k ∧ s.env 1 = CQ v ∧ s.env 5 = DD l ∧ s.env 6 = AR (CZ v (l.take k)) ∧ s.env 7 = AR k) l.length ⟨0, Nat.zero_le _, rfl, rfl, rfl, rfl, rfl⟩ ?_
 rintro n ⟨env, S⟩ ⟨k, hk, rfl, e1, e5, e6, e7⟩
 simp only at e1 e5 e6 e7
 by_cases hlt : (k : Int) < l.length
 ·obtain ⟨a, ha⟩ := Aj (show k < l.length by omega)
  have hle := Mj v (l.take k)
  rw [List.length_take] at hle
  have hst := Jm (v := v) ha
  by_cases hn : a.name = v
  ·rw [if_pos hn] at hst
   repeat' with_reducible first | refine W ?_ | refine Z0 ?_ | ((first | refine Wo fun K hK => ?_ | refine Wp ?_ | refine Wq ?_ | refine Wr ?_); (try simp only [go_sem, fN, seval, eT, iR, e1, e5, e6, e7, ha, hlt, hn, dT, dF, nL]); (repeat refine Ai ?_); (try (refine hK _ ?_; clear hK K)); try refine iC ?_)
   refine AH ⟨l.length - (k + 1), by omega, k + 1, by omega, rfl, ?_⟩
   simp only [go_sem, fN, seval, eT, iR, e1, e5, e6, e7]
   exact ⟨by rw [hst]; congr 3, by congr 3⟩
  ·rw [if_neg hn] at hst
   repeat' with_reducible first | refine W ?_ | refine Z0 ?_ | ((first | refine Wo fun K hK => ?_ | refine Wp ?_ | refine Wq ?_ | refine Wr ?_); (try simp only [go_sem, fN, seval, eT, iR, e1, e5, e6, e7, ha, hlt, hn, dT, dF, nL]); (repeat refine Ai ?_); (try (refine hK _ ?_; clear hK K)); try refine iC ?_)
   refine AH ⟨l.length - (k + 1), by omega, k + 1, by omega, rfl, ?_⟩
   simp only [go_sem, fN, seval, eT, iR, e1, e5, e6, e7]
   exact ⟨by rw [hst]; congr 3, by congr 3⟩
 ·rw [List.take_of_length_le (by omega)] at e6
  repeat' with_reducible first | refine W ?_ | refine Z0 ?_ | ((first | refine Wo fun K hK => ?_ | refine Wp ?_ | refine Wq ?_ | refine Wr ?_); (try simp only [go_sem, fN, seval, eT, iR, e1, e5, e6, e7, hlt, dT, dF, nL]); (repeat refine Ai ?_); (try (refine hK _ ?_; clear hK K)); try refine iC ?_)
  simp only [go_sem, fN, seval, AM, AS.result, AB, AD, AI, e6]
theorem HL {row : List ByteArray} : ∀ {xs ys : List Tm} {k : Nat}, xs.take k = ys.take k → k ≤ xs.length → xs.length = ys.length → Tm.wtL row xs ys = Tm.wtL row (xs.drop k) (ys.drop k)
 | xs, ys, 0, _, _, _ => by simp
 | x :: xs, y :: ys, k + 1, h, hk, hl => by
  simp only [List.take_succ_cons, List.cons.injEq] at h
  rw [Tm.wtL, if_pos ((Tm.beq_iff x y).2 h.1), List.drop_succ_cons, List.drop_succ_cons]
  exact HL h.2 (by simpa using hk) (by simpa using hl)
 | [], _, k + 1, _, hk, _ => by simp at hk
 | _ :: _, [], k + 1, _, _, hl => by simp at hl
theorem Ik (row : List ByteArray) : ∀ (N : Nat) (a b : Tm), SizeOf.sizeOf a < N → a.size ≤ 1000000 → b.size ≤ 1000000 → AQ Try.prog 19 [At row, aTm a, aTm b] (Ag (a.wt row b))
 | 0, _, _, h, _, _ => absurd h (Nat.not_lt_zero _)
 | N + 1, a, b, hN, hza, hzb => by
  have hV := Oq b hzb
  have hka := Tm.knots_length a
  have hkb := Tm.knots_length b
  have hKa := Cc a hza
  have hKb := Cc b hzb
  have hGab := Dm row a b
  have hGba := Dm row b a
  have hw := Tm.wt_eq row a b
  rw [← PD] at hw
  refine H3.ac fun C hC => ?_
  unfold En
  refine IWP.learn 0 (by omega) fun hkn => ?_
  repeat' (first | (with_reducible first | refine W ?_ | refine Z0 ?_ | ((first | refine Wo fun K hK => ?_ | refine Wp ?_ | refine Wq ?_ | refine Wr ?_); (try simp only [go_sem, fN, seval, eT, iR, dT, dF, nL]); (repeat refine Ai ?_); (try (refine hK _ ?_; clear hK K)); try refine iC ?_)) | refine Cg _ (hV) ?_)
  refine IWP.loop (fun q s => ∃ k, k ≤ b.varsOf.length ∧ q = b.varsOf.length - k ∧ s.env 0 = At row ∧ s.env 4 = .one (.ptr 4 1 0 0) ∧ s.env 5 = .one (.ptr 5 1 0 0) ∧ s.S 4 = some (M6 a) ∧ s.S 5 = some (M6 b) ∧ s.env 7 = At b.varsOf ∧ s.env 8 = AR k ∧ (b.varsOf.take k).all (fun v => decide (b.occN v ≤ a.occN v)) = true) b.varsOf.length
   ⟨0, Nat.zero_le _, rfl, rfl, rfl, rfl, by simp only [go_sem, fN, seval, eT, iR], by simp only [go_sem, fN, seval, eT, iR], rfl, rfl, rfl⟩ ?_
  rintro q ⟨env, St⟩ ⟨k, hk, rfl, e0, e4, e5, s4, s5, e7, e8, hall⟩
  simp only at e0 e4 e5 s4 s5 e7 e8
  have hvl : b.varsOf.length ≤ b.size := by
   have := Cz b.knots []
   rw [Tm.knots_length] at this
   simpa [Tm.varsOf] using this
  by_cases hlt : (k : Int) < b.varsOf.length
  ·obtain ⟨v, hv⟩ := Aj (show k < b.varsOf.length by omega)
   have oa := Ke a v hza
   have ob := Ke b v hzb
   by_cases hg : (a.occN v : Int) < b.occN v
   ·have hf : Of a b = false := by
     unfold Of
     rw [List.all_eq_false]
     exact ⟨v, List.mem_of_getElem? hv, by simp; omega⟩
    rw [hf, Bool.false_and] at hw
    repeat' (first | (with_reducible first | refine W ?_ | refine Z0 ?_ | ((first | refine Wo fun K hK => ?_ | refine Wp ?_ | refine Wq ?_ | refine Wr ?_); (try simp only [go_sem, fN, seval, eT, iR, e0, e4, e5, s4, s5, e7, e8, hlt, hv, hg, dT, dF, nL]); (repeat refine Ai ?_); (try (refine hK _ ?_; clear hK K)); try refine iC ?_)) | refine Cg _ (ob) ?_ | refine Cg _ (oa) ?_)
    simp only [go_sem, fN, seval, AM, AS.result, AB, AD, AI, hw]
   ·repeat' (first | (with_reducible first | refine W ?_ | refine Z0 ?_ | ((first | refine Wo fun K hK => ?_ | refine Wp ?_ | refine Wq ?_ | refine Wr ?_); (try simp only [go_sem, fN, seval, eT, iR, e0, e4, e5, s4, s5, e7, e8, hlt, hv, hg, dT, dF, nL]); (repeat refine Ai ?_); (try (refine hK _ ?_; clear hK K)); try refine iC ?_)) | refine Cg _ (ob) ?_ | refine Cg _ (oa) ?_)
    refine AH ⟨b.varsOf.length - (k + 1), by omega, k + 1, by omega, rfl, e0, e4, e5, s4, s5, e7, rfl, ?_⟩
    rw [Aa hv, List.all_append, hall]
    simp
    omega
  rw [List.take_of_length_le (by omega)] at hall
  have hok : Of a b = true := hall
  rw [hok, Bool.true_and] at hw
  by_cases hsz : a.size = b.size
  case neg =>
   rw [if_neg hsz] at hw
   have h1 : ¬ (a.knots.length : Int) = b.knots.length := by omega
   have h2 : a.wt row b = decide ((b.knots.length : Int) < a.knots.length) := by
    rw [hw, decide_eq_decide]
    omega
   rw [h2]
   repeat' (first | (with_reducible first | refine W ?_ | refine Z0 ?_ | ((first | refine Wo fun K hK => ?_ | refine Wp ?_ | refine Wq ?_ | refine Wr ?_); (try simp only [go_sem, fN, seval, eT, iR, e0, e4, e5, s4, s5, e7, e8, hlt, h1, dT, dF, nL]); (repeat refine Ai ?_); (try (refine hK _ ?_; clear hK K)); try refine iC ?_)) | refine Cg _ (hKa) ?_ | refine Cg _ (hKb) ?_)
   simp only [go_sem, fN, seval, AM, AS.result, AB, AD, AI]
  case pos =>
  rw [if_pos hsz] at hw
  have h1 : (a.knots.length : Int) = b.knots.length := by omega
  cases hva : AW a.name with
  | true =>
   rw [hva] at hw
   have hw : a.wt row b = false := by rw [hw]; rfl
   repeat' (first | (with_reducible first | refine W ?_ | refine Z0 ?_ | ((first | refine Wo fun K hK => ?_ | refine Wp ?_ | refine Wq ?_ | refine Wr ?_); (try simp only [go_sem, fN, seval, eT, iR, e0, e4, e5, s4, s5, e7, e8, hlt, h1, hva, dT, dF, nL]); (repeat refine Ai ?_); (try (refine hK _ ?_; clear hK K)); try refine iC ?_)) | refine Cg _ (hKa) ?_ | refine Cg _ (hKb) ?_ | refine Cg _ (BB a.name) ?_)
   simp only [go_sem, fN, seval, AM, AS.result, AB, AD, AI, hw]
  | false =>
  cases hvb : AW b.name with
  | true =>
   rw [hva, hvb] at hw
   have hw : a.wt row b = false := by rw [hw]; rfl
   repeat' (first | (with_reducible first | refine W ?_ | refine Z0 ?_ | ((first | refine Wo fun K hK => ?_ | refine Wp ?_ | refine Wq ?_ | refine Wr ?_); (try simp only [go_sem, fN, seval, eT, iR, e0, e4, e5, s4, s5, e7, e8, hlt, h1, hva, hvb, dT, dF, nL]); (repeat refine Ai ?_); (try (refine hK _ ?_; clear hK K)); try refine iC ?_)) | refine Cg _ (hKa) ?_ | refine Cg _ (hKb) ?_ | refine Cg _ (BB a.name) ?_ | refine Cg _ (BB b.name) ?_)
   simp only [go_sem, fN, seval, AM, AS.result, AB, AD, AI, hw]
  | false =>
  rw [hva, hvb] at hw
  have hw : a.wt row b = if Aw row a b = 0 then Tm.wtL row a.args b.args else decide (0 < Aw row a b) := by rw [hw]; rfl
  by_cases hs1 : 0 < Aw row a b
  ·rw [if_neg (by omega)] at hw
   have hd : decide (0 < Aw row a b) = true := by simpa using hs1
   rw [hd] at hGab hw
   repeat' (first | (with_reducible first | refine W ?_ | refine Z0 ?_ | ((first | refine Wo fun K hK => ?_ | refine Wp ?_ | refine Wq ?_ | refine Wr ?_); (try simp only [go_sem, fN, seval, eT, iR, e0, e4, e5, s4, s5, e7, e8, hlt, h1, hva, hvb, dT, dF, nL]); (repeat refine Ai ?_); (try (refine hK _ ?_; clear hK K)); try refine iC ?_)) | refine Cg _ (hKa) ?_ | refine Cg _ (hKb) ?_ | refine Cg _ (BB a.name) ?_ | refine Cg _ (BB b.name) ?_ | refine Cg _ (hGab) ?_)
   simp only [go_sem, fN, seval, AM, AS.result, AB, AD, AI, hw]
  have hd1 : decide (0 < Aw row a b) = false := by simpa using hs1
  rw [hd1] at hGab hw
  by_cases hs2 : 0 < Aw row b a
  ·rw [if_neg (by have := FH.2 hs2; omega)] at hw
   have hd : decide (0 < Aw row b a) = true := by simpa using hs2
   rw [hd] at hGba
   repeat' (first | (with_reducible first | refine W ?_ | refine Z0 ?_ | ((first | refine Wo fun K hK => ?_ | refine Wp ?_ | refine Wq ?_ | refine Wr ?_); (try simp only [go_sem, fN, seval, eT, iR, e0, e4, e5, s4, s5, e7, e8, hlt, h1, hva, hvb, dT, dF, nL]); (repeat refine Ai ?_); (try (refine hK _ ?_; clear hK K)); try refine iC ?_)) | refine Cg _ (hKa) ?_ | refine Cg _ (hKb) ?_ | refine Cg _ (BB a.name) ?_ | refine Cg _ (BB b.name) ?_ | refine Cg _ (hGab) ?_ | refine Cg _ (hGba) ?_)
   simp only [go_sem, fN, seval, AM, AS.result, AB, AD, AI, hw]
  have hd2 : decide (0 < Aw row b a) = false := by simpa using hs2
  rw [hd2] at hGba
  have hs0 : Aw row a b = 0 := by
   have h1 : ¬ Aw row a b < 0 := fun h => hs2 (FH.1 h)
   omega
  rw [if_pos hs0] at hw
  have hle := (CI.1 hs0).2
  have hal := Tm.length_le a.args
  have has := Tm.size_eq a
  repeat' (first | (with_reducible first | refine W ?_ | refine Z0 ?_ | ((first | refine Wo fun K hK => ?_ | refine Wp ?_ | refine Wq ?_ | refine Wr ?_); (try simp only [go_sem, fN, seval, eT, iR, e0, e4, e5, s4, s5, e7, e8, hlt, h1, hva, hvb, dT, dF, nL]); (repeat refine Ai ?_); (try (refine hK _ ?_; clear hK K)); try refine iC ?_)) | refine Cg _ (hKa) ?_ | refine Cg _ (hKb) ?_ | refine Cg _ (BB a.name) ?_ | refine Cg _ (BB b.name) ?_ | refine Cg _ (hGab) ?_ | refine Cg _ (hGba) ?_)
  refine IWP.loop (fun q s => ∃ k, k ≤ a.args.length ∧ q = a.args.length - k ∧ s.env 0 = At row ∧ s.env 4 = .one (.ptr 4 1 0 0) ∧ s.env 5 = .one (.ptr 5 1 0 0) ∧ s.S 4 = some (M6 a) ∧ s.S 5 = some (M6 b) ∧ s.env 11 = AR k ∧ a.args.take k = b.args.take k) a.args.length
   ⟨0, Nat.zero_le _, rfl, by simp only [go_sem, fN, seval, eT, iR, e0], by simp only [go_sem, fN, seval, eT, iR, e4], by simp only [go_sem, fN, seval, eT, iR, e5], s4, s5, by simp only [go_sem, fN, seval, eT, iR], rfl⟩ ?_
  rintro q ⟨env2, S2⟩ ⟨k2, hk2, rfl, f0, f4, f5, t4, t5, f11, hpre⟩
  simp only at f0 f4 f5 t4 t5 f11
  by_cases hlt2 : (k2 : Int) < a.args.length
  ·obtain ⟨c, hc⟩ := Aj (show k2 < a.args.length by omega)
   obtain ⟨d, hdm⟩ := Aj (show k2 < b.args.length by omega)
   have hcm := List.mem_of_getElem? hc
   have hdd := List.mem_of_getElem? hdm
   have hbq := I3 c d
   cases hq : c.beq d with
   | false =>
    rw [hq] at hbq
    have hr : a.wt row b = c.wt row d := by
     rw [hw, HL hpre hk2 hle, BT hc, BT hdm, Tm.wtL, if_neg (by rw [hq]; decide)]
    have hsa := Tm.size_mem hcm
    have hsb := Tm.size_mem hdd
    have hbs := Tm.size_eq b
    have ih := Ik row N c d (by have := Tm.lt_of_arg hcm; omega) (by omega) (by omega)
    repeat' (first | (with_reducible first | refine W ?_ | refine Z0 ?_ | ((first | refine Wo fun K hK => ?_ | refine Wp ?_ | refine Wq ?_ | refine Wr ?_); (try simp only [go_sem, fN, seval, eT, iR, f0, f4, f5, t4, t5, f11, hlt2, hc, hdm, dT, dF, nL]); (repeat refine Ai ?_); (try (refine hK _ ?_; clear hK K)); try refine iC ?_)) | refine Cg _ (hbq) ?_ | refine Cg _ (ih) ?_)
    simp only [go_sem, fN, seval, AM, AS.result, AB, AD, AI, hr]
   | true =>
    rw [hq] at hbq
    repeat' (first | (with_reducible first | refine W ?_ | refine Z0 ?_ | ((first | refine Wo fun K hK => ?_ | refine Wp ?_ | refine Wq ?_ | refine Wr ?_); (try simp only [go_sem, fN, seval, eT, iR, f0, f4, f5, t4, t5, f11, hlt2, hc, hdm, dT, dF, nL]); (repeat refine Ai ?_); (try (refine hK _ ?_; clear hK K)); try refine iC ?_)) | refine Cg _ (hbq) ?_)
    refine AH ⟨a.args.length - (k2 + 1), by omega, k2 + 1, by omega, rfl, f0, f4, f5, t4, t5, rfl, ?_⟩
    rw [Aa hc, Aa hdm, hpre, (Tm.beq_iff c d).1 hq]
  ·have hke : k2 = a.args.length := by omega
   rw [hke, List.take_length, hle, List.take_length] at hpre
   have hr : a.wt row b = false := by
    have h3 := HL (row := row) (xs := a.args) (ys := b.args) (k := a.args.length) (by rw [hpre]) (Nat.le_refl _) hle
    rw [hw, h3, List.drop_length, Tm.wtL]
    intros
    simp_all
   repeat' with_reducible first | refine W ?_ | refine Z0 ?_ | ((first | refine Wo fun K hK => ?_ | refine Wp ?_ | refine Wq ?_ | refine Wr ?_); (try simp only [go_sem, fN, seval, eT, iR, f0, f4, f5, t4, t5, f11, hlt2, dT, dF, nL]); (repeat refine Ai ?_); (try (refine hK _ ?_; clear hK K)); try refine iC ?_)
   simp only [go_sem, fN, seval, AM, AS.result, AB, AD, AI, hr]

set_option maxRecDepth 100000
def II : IR :=
 (.seq (.ops [.i 4 (.mov (.n 0))]) (.seq (.seq (.ops [.m 5 0, .i 6 (.bin .lss (.t 5) (.n 0))]) (.cond (.t 6) (.ops [.m 7 0, .i 8 (.bin .add (.t 7) (.n 1)), .i 9 (.un .neg (.t 8)), .m 0 9]) .skip)) (.seq (.ops [.m 10 0, .m 11 1, .i 12 (.bin .rem (.t 10) (.t 11)), .m 4 12]) .ret)))
theorem Me : OkF Try.prog 5 13 [] II [.t 4] := .of Try.func5 rfl rfl (by kernel_rfl) rfl
def J9 : IR :=
 (.seq (.ops [.i 4 (.mov (.n 0))]) (.seq (.seq (.ops [.m 5 0, .i 6 (.len false (.t 5)), .i 7 (.bin .eql (.t 6) (.n 0))]) (.cond (.t 7) (.seq (.ops [.m 8 1, .i 9 (.bin .mul (.t 8) (.n 31)), .m 4 9]) .ret) .skip)) (.seq (.ops [.m 10 0, .m 11 1, .m 12 0, .i 13 (.len false (.t 12)), .i 14 (.bin .rem (.t 11) (.t 13)), .i 15 (.indexAddr 1 (.t 10) (.t 14)), .l 16 15, .i 17 (.call 5 [.t 16, .n 1000003]), .m 18 1, .m 19 0, .i 20 (.len false (.t 19)), .i 21 (.bin .quo (.t 18) (.t 20)), .i 22 (.bin .mul (.t 21) (.n 7919)), .i 23 (.bin .add (.t 17) (.t 22)), .m 4 23]) .ret)))
theorem Oj : OkF Try.prog 13 24 [] J9 [.t 4] := .of Try.func13 rfl rfl (by kernel_rfl) rfl
def H_ : IR :=
 (.seq (.ops [.i 2 (.alloc 25 [.st (.str (ByteArray.mk (#[]))), .full []])]) (.seq (.ops [.m 3 0, .i 4 (.build [.st (.str (ByteArray.mk (#[]))), .full []] [(0, 1, .t 3)]), .s 2 2 4]) .ret))
theorem ML : OkF Try.prog 23 5 [] H_ [.cell 2 true 2] := .of Try.func23 rfl rfl (by kernel_rfl) rfl
def Cn : IR :=
 (.seq (.ops [.i 8 (.alloc 25 [.st (.str (ByteArray.mk (#[]))), .full []]), .i 9 (.mov (.n 0))]) (.seq (.ops [.m 18 0, .m 19 1, .i 20 (.call 13 [.t 18, .t 19]), .m 10 20]) (.seq (.ops [.m 21 1, .i 22 (.bin .add (.t 21) (.n 1)), .m 1 22]) (.seq (.seq (.ops [.m 23 2, .i 24 (.bin .lss (.t 23) (.n 3)), .m 25 24, .mk (some 26) (some (25, false)) (.mov (.t 10)) .no, .mk (some 27) (some (25, false)) (.call 5 [.t 26, .n 5]) .no, .mk (some 28) (some (25, false)) (.bin .lss (.t 27) (.n 2)) .no, .i 29 (.pick (.t 25) (.c (.one (.st (.bool true)))) (.t 28))]) (.cond (.t 29) (.seq (.seq (.ops [.m 30 3, .i 31 (.bin .gtr (.t 30) (.n 0)), .m 32 31, .mk (some 33) (some (32, true)) (.mov (.t 10)) .no, .mk (some 34) (some (32, true)) (.bin .quo (.t 33) (.n 5)) .no, .mk (some 35) (some (32, true)) (.call 5 [.t 34, .n 3]) .no, .mk (some 36) (some (32, true)) (.bin .gtr (.t 35) (.n 0)) .no, .i 37 (.pick (.t 32) (.t 36) (.c (.one (.st (.bool false)))))]) (.cond (.t 37) (.seq (.ops [.i 38 (.buildFlat [.c (.one (.st (.str (ByteArray.mk (#[88]))))), .c (.one (.st (.str (ByteArray.mk (#[89]))))), .c (.one (.st (.str (ByteArray.mk (#[90]))))), .c (.one (.st (.str (ByteArray.mk (#[85])))))]), .m 39 10, .i 40 (.bin .quo (.t 39) (.n 15)), .m 41 3, .i 42 (.call 5 [.t 40, .t 41]), .i 43 (.indexAddr 1 (.t 38) (.t 42)), .l 44 43, .i 45 (.call 23 [.t 44]), .m 46 1, .s 2 8 45, .m 9 46]) .ret) .skip)) (.seq (.ops [.i 47 (.buildFlat [.c (.one (.st (.str (ByteArray.mk (#[97]))))), .c (.one (.st (.str (ByteArray.mk (#[98]))))), .c (.one (.st (.str (ByteArray.mk (#[99])))))]), .m 48 10, .i 49 (.bin .quo (.t 48) (.n 15)), .i 50 (.call 5 [.t 49, .n 3]), .i 51 (.indexAddr 1 (.t 47) (.t 50)), .l 52 51, .i 53 (.call 23 [.t 52]), .m 54 1, .s 2 8 53, .m 9 54]) .ret)) .skip)) (.seq (.seq (.ops [.m 55 10, .i 56 (.bin .quo (.t 55) (.n 5)), .i 57 (.call 5 [.t 56, .n 4])]) (.block 0 (.seq (.ops [.i 59 (.bin .eql (.t 57) (.n 0)), .m 58 59]) (.cond (.t 58) (.seq (.ops [.m 61 0, .m 62 1, .m 63 2, .i 64 (.bin .sub (.t 63) (.n 1)), .m 65 3, .i 66 (.call 10 [.t 61, .t 62, .t 64, .t 65]), .m 60 66, .i 67 (.extract 0 (.t 60)), .i 68 (.extract 1 (.t 60)), .i 11 (.alloc 25 [.st (.str (ByteArray.mk (#[]))), .full []]), .s 2 11 67, .m 12 68]) (.seq (.ops [.L 69 2 11, .i 70 (.buildSlice false 25 2 [.t 69]), .i 71 (.build [.st (.str (ByteArray.mk (#[]))), .full []] [(0, 1, .c (.one (.st (.str (ByteArray.mk (#[104])))))), (1, 1, .t 70)]), .m 72 12, .s 2 8 71, .m 9 72]) .ret)) (.seq (.ops [.i 74 (.bin .eql (.t 57) (.n 1)), .m 73 74]) (.cond (.t 73) (.seq (.ops [.m 76 0, .m 77 1, .m 78 2, .i 79 (.bin .sub (.t 78) (.n 1)), .m 80 3, .i 81 (.call 10 [.t 76, .t 77, .t 79, .t 80]), .m 75 81, .i 82 (.extract 0 (.t 75)), .i 83 (.extract 1 (.t 75)), .i 13 (.alloc 25 [.st (.str (ByteArray.mk (#[]))), .full []]), .s 2 13 82, .m 14 83]) (.seq (.ops [.L 84 2 13, .i 85 (.buildSlice false 25 2 [.t 84]), .i 86 (.build [.st (.str (ByteArray.mk (#[]))), .full []] [(0, 1, .c (.one (.st (.str (ByteArray.mk (#[107])))))), (1, 1, .t 85)]), .m 87 14, .s 2 8 86, .m 9 87]) .ret)) .skip)))))) (.seq (.ops [.m 89 0, .m 90 1, .m 91 2, .i 92 (.bin .quo (.t 91) (.n 2)), .m 93 3, .i 94 (.call 10 [.t 89, .t 90, .t 92, .t 93]), .m 88 94, .i 95 (.extract 0 (.t 88)), .i 96 (.extract 1 (.t 88)), .i 15 (.alloc 25 [.st (.str (ByteArray.mk (#[]))), .full []]), .s 2 15 95, .m 16 96]) (.seq (.ops [.m 98 0, .m 99 16, .m 100 2, .i 101 (.bin .quo (.t 100) (.n 2)), .m 102 3, .i 103 (.call 10 [.t 98, .t 99, .t 101, .t 102]), .m 97 103, .i 104 (.extract 0 (.t 97)), .i 105 (.extract 1 (.t 97)), .i 17 (.alloc 25 [.st (.str (ByteArray.mk (#[]))), .full []]), .s 2 17 104, .m 16 105]) (.seq (.ops [.i 106 (.buildFlat [.c (.one (.st (.str (ByteArray.mk (#[102]))))), .c (.one (.st (.str (ByteArray.mk (#[103])))))]), .m 107 10, .i 108 (.bin .quo (.t 107) (.n 5)), .i 109 (.call 5 [.t 108, .n 4]), .i 110 (.bin .sub (.t 109) (.n 2)), .i 111 (.indexAddr 1 (.t 106) (.t 110)), .l 112 111, .L 113 2 15, .L 114 2 17, .i 115 (.buildSlice false 25 2 [.t 113, .t 114]), .i 116 (.build [.st (.str (ByteArray.mk (#[]))), .full []] [(0, 1, .t 112), (1, 1, .t 115)]), .m 117 16, .s 2 8 116, .m 9 117]) .ret))))))))
theorem DT : OkF Try.prog 10 118 [] Cn [.cell 8 true 2, .t 9] := .of Try.func10 rfl rfl (by kernel_rfl) rfl
def GG : IR :=
 (.seq (.ops [.i 8 (.alloc 25 [.st (.str (ByteArray.mk (#[]))), .full []])]) (.seq (.ops [.m 12 0, .m 13 1, .m 14 2, .m 15 3, .i 16 (.call 10 [.t 12, .t 13, .t 14, .t 15]), .m 11 16, .i 17 (.extract 0 (.t 11)), .i 18 (.extract 1 (.t 11)), .i 9 (.alloc 25 [.st (.str (ByteArray.mk (#[]))), .full []]), .s 2 9 17, .m 10 18]) (.seq (.ops [.L 19 2 9, .s 2 8 19]) .ret)))
theorem Jf : OkF Try.prog 4 20 [] GG [.cell 8 true 2] := .of Try.func4 rfl rfl (by kernel_rfl) rfl

def Bj (c n : Int) : Int := (if c < 0 then -(c + 1) else c) % n
theorem BC (c n : Int) (hn : 1 ≤ n) : 0 ≤ Bj c n ∧ Bj c n < n := ⟨Int.emod_nonneg _ (by omega), Int.emod_lt_of_pos _ (by omega)⟩
theorem E9 {x n : Int} (hx : 0 ≤ x) (hn : 1 ≤ n) : x.tmod n = x % n ∧ 0 ≤ x % n ∧ x % n < n ∧ x % n ≤ x := by
 rw [Int.tmod_eq_emod_of_nonneg hx]
 refine ⟨rfl, Int.emod_nonneg _ (by omega), Int.emod_lt_of_pos _ (by omega), ?_⟩
 by_cases h : x < n
 ·rw [Int.emod_eq_of_lt hx h]; exact Int.le_refl _
 ·have := Int.emod_lt_of_pos x (show 0 < n by omega); omega
theorem Dr {x n : Int} (hx : 0 ≤ x) (hn : 1 ≤ n) : x.tdiv n = x / n ∧ 0 ≤ x / n ∧ x / n ≤ x := by
 rw [Int.tdiv_eq_ediv_of_nonneg hx]
 exact ⟨rfl, Int.ediv_nonneg hx (by omega), Int.ediv_le_self _ hx⟩
theorem DB (c n : Int) (hc : inR .i64 c) (hn : 1 ≤ n) : AQ Try.prog 5 [AR c, AR n] (AR (Bj c n)) := by
 rw [Ci] at hc
 refine Me.ac fun C hC => ?_
 unfold II
 repeat' with_reducible first | refine W ?_ | refine Z0 ?_ | ((first | refine Wo fun K hK => ?_ | refine Wq ?_ | refine Wr ?_); (try simp only [go_sem, fN, seval, eT, iR]); (repeat refine Ai ?_); (try (refine hK _ ?_; clear hK K)))
 with_reducible refine Wp ?_
 simp only [go_sem, fN, seval, true_implies, false_implies, implies_true, dT, dF, nL]
 (try with_reducible refine iC ?_)
 refine ⟨fun h0 => ?_, fun h0 => ?_⟩
 ·have h1 := E9 (x := 0 - (c + 1)) (n := n) (by omega) hn
  repeat' with_reducible first | refine W ?_ | refine Z0 ?_ | ((first | refine Wo fun K hK => ?_ | refine Wq ?_ | refine Wr ?_); (try simp only [go_sem, fN, seval, eT, iR, h1.1]); (repeat refine Ai ?_); (try (refine hK _ ?_; clear hK K)))
  simp only [go_sem, fN, seval, AM, AS.result, AB, AD, AI]
  unfold Bj
  rw [if_pos h0]
  congr 5
  omega
 ·have h1 := E9 (x := c) (n := n) (by omega) hn
  repeat' with_reducible first | refine W ?_ | refine Z0 ?_ | ((first | refine Wo fun K hK => ?_ | refine Wq ?_ | refine Wr ?_); (try simp only [go_sem, fN, seval, eT, iR, h1.1]); (repeat refine Ai ?_); (try (refine hK _ ?_; clear hK K)))
  simp only [go_sem, fN, seval, AM, AS.result, AB, AD, AI]
  unfold Bj
  rw [if_neg h0]
def GX (l : List Int) (i : Nat) : Int := if l.length = 0 then i * 31 else Bj (l.getD (i % l.length) 0) 1000003 + ((i / l.length : Nat) : Int) * 7919
theorem Gr (l : List Int) (i : Nat) : 0 ≤ GX l i ∧ GX l i ≤ 1000003 + i * 7919 := by
 unfold GX
 split
 ·omega
 ·have := BC (l.getD (i % l.length) 0) 1000003 (by omega)
  have h2 : i / l.length ≤ i := Nat.div_le_self _ _
  generalize i / l.length = q at *
  omega
theorem PS (l : List Int) (i : Nat) (hi : i ≤ 1000000) (hl : ∀ n ∈ l, inR .i64 n) (hm : l.length ≤ maxLen) : AQ Try.prog 13 [DZ l, AR i] (AR (GX l i)) := by
 rw [Cl] at hm
 refine Oj.ac fun C hC => ?_
 unfold J9
 repeat' with_reducible first | refine W ?_ | refine Z0 ?_ | ((first | refine Wo fun K hK => ?_ | refine Wq ?_ | refine Wr ?_); (try simp only [go_sem, fN, seval, eT, iR]); (repeat refine Ai ?_); (try (refine hK _ ?_; clear hK K)))
 with_reducible refine Wp ?_
 simp only [go_sem, fN, seval, true_implies, false_implies, implies_true, dT, dF, nL]
 (try with_reducible refine iC ?_)
 refine ⟨fun h0 => ?_, fun h0 => ?_⟩
 ·repeat' with_reducible first | refine W ?_ | refine Z0 ?_ | ((first | refine Wo fun K hK => ?_ | refine Wq ?_ | refine Wr ?_); (try simp only [go_sem, fN, seval, eT, iR]); (repeat refine Ai ?_); (try (refine hK _ ?_; clear hK K)))
  simp only [go_sem, fN, seval, AM, AS.result, AB, AD, AI]
  unfold GX
  rw [if_pos (by omega)]
 ·have h1 := E9 (x := (i : Int)) (n := (l.length : Int)) (by omega) (by omega)
  have h2 := Dr (x := (i : Int)) (n := (l.length : Int)) (by omega) (by omega)
  have hlt : i % l.length < l.length := Nat.mod_lt _ (by omega)
  obtain ⟨a, ha⟩ := Aj hlt
  have e1 : ((i : Int) % (l.length : Int)) = ((i % l.length : Nat) : Int) := by omega
  have e2 : ((i : Int) / (l.length : Int)) = ((i / l.length : Nat) : Int) := by omega
  have h3 : i / l.length ≤ i := Nat.div_le_self _ _
  repeat' with_reducible first | refine W ?_ | refine Z0 ?_ | ((first | refine Wo fun K hK => ?_ | refine Wq ?_ | refine Wr ?_); (try simp only [go_sem, fN, seval, eT, iR, h1.1, h2.1, e1, e2, ha]); (repeat refine Ai ?_); (try (refine hK _ ?_; clear hK K)))
  refine ⟨_, DB a 1000003 (hl a (Ae ha)) (by omega), ?_⟩
  have hp := BC a 1000003 (by omega)
  repeat' with_reducible first | refine W ?_ | refine Z0 ?_ | ((first | refine Wo fun K hK => ?_ | refine Wq ?_ | refine Wr ?_); (try simp only [go_sem, fN, seval, eT, iR, h1.1, h2.1, e1, e2]); (repeat refine Ai ?_); (try (refine hK _ ?_; clear hK K)))
  simp only [go_sem, fN, seval, AM, AS.result, AB, AD, AI]
  unfold GX
  rw [if_neg (by omega), List.getD_eq_getElem?_getD, ha]
  rfl
theorem JR (s : ByteArray) : AQ Try.prog 23 [CQ s] (aTm (.mk s [])) := by
 refine ML.ac fun C hC => ?_
 unfold H_
 repeat' with_reducible first | refine W ?_ | refine Z0 ?_ | ((first | refine Wo fun K hK => ?_ | refine Wq ?_ | refine Wr ?_); (try simp only [go_sem, fN, seval, eT, iR]); (repeat refine Ai ?_); (try (refine hK _ ?_; clear hK K)))
 simp only [go_sem, fN, seval, AM, AS.result, AB, AD, AI]
 rfl
theorem HW {n : ByteArray} {xs : List Tm} (h1 : A0 n = true) (h2 : AW n = false) (hx : ∀ x ∈ xs, x.chk = 0) : (Tm.mk n xs).chk = 0 := by
 have h0 : Br (Tm.mk n xs) = 0 := by
  unfold Br
  rw [Tm.name_mk, if_pos h1, if_neg (by rw [h2]; simp)]
 rw [Tm.chk_eq, if_pos h0, Tm.args_mk]
 induction xs with
 | nil => rfl
 | cons x xs ih =>
  simp only [Tm.chkL]
  rw [if_pos (hx x (by simp))]
  refine ih (fun y hy => hx y (by simp [hy])) ?_
  unfold Br
  rw [Tm.name_mk, if_pos h1, if_neg (by rw [h2]; simp)]
def Cr (l : List Int) (at_ : Nat) (most vars : Int) (t : Tm) : Prop :=
 AQ Try.prog 10 [DZ l, AR at_, AR most, AR vars] (.tup [aTm t, AR ((at_ + t.size : Nat) : Int)])
abbrev Bk : List ByteArray := [⟨#[88]⟩, ⟨#[89]⟩, ⟨#[90]⟩, ⟨#[85]⟩, ⟨#[97]⟩, ⟨#[98]⟩, ⟨#[99]⟩, ⟨#[102]⟩, ⟨#[103]⟩, ⟨#[104]⟩, ⟨#[107]⟩]
def Gh (vars : Int) (t : Tm) : Prop := ∀ k ∈ t.knots, k.name ∈ Bk ∧ (vars = 1 → AW k.name = true → k.name = ⟨#[88]⟩)
theorem I_ {k : Tm} : ∀ {xs : List Tm}, k ∈ Tm.knotsL xs → ∃ x ∈ xs, k ∈ x.knots
 | [], h => by cases h
 | x :: xs, h => by
  rw [Tm.knotsL, List.mem_append] at h
  rcases h with h | h
  ·exact ⟨x, by simp, h⟩
  ·obtain ⟨y, hy, hk⟩ := I_ h
   exact ⟨y, by simp [hy], hk⟩
theorem Cv {vars : Int} {n : ByteArray} {xs : List Tm} (hn : n ∈ Bk) (hv : AW n = true → vars = 1 → n = ⟨#[88]⟩) (hx : ∀ x ∈ xs, Gh vars x) : Gh vars (.mk n xs) := by
 intro k hk
 rw [Tm.knots] at hk
 rcases List.mem_cons.1 hk with rfl | hk
 ·exact ⟨hn, fun h1 h2 => hv h2 h1⟩
 ·obtain ⟨x, hx', hk⟩ := I_ hk
  exact hx x hx' k hk
mutual
def Tm.lvs : Tm → Nat
 | .mk _ xs => (if xs.isEmpty then 1 else 0) + Tm.lvsL xs
def Tm.lvsL : List Tm → Nat
 | [] => 0
 | t :: ts => t.lvs + Tm.lvsL ts
end
def Ep (m : Nat) : Nat := if m < 3 then 1 else if m < 6 then 2 else if m < 10 then 4 else m
theorem It (m : Nat) : 1 ≤ Ep m := by unfold Ep; split <;> (try split) <;> (try split) <;> omega
theorem Ie {m : Nat} (h : 3 ≤ m) : Ep (m - 1) ≤ Ep m := by unfold Ep; (repeat' split) <;> omega
theorem MS {m : Nat} (h : 3 ≤ m) : Ep (m / 2) + Ep (m / 2) ≤ Ep m := by unfold Ep; (repeat' split) <;> omega
def NoU (t : Tm) : Prop := ∀ k ∈ t.knots, k.name ≠ ⟨#[85]⟩
theorem Gz {n : ByteArray} {xs : List Tm} (hn : n ≠ ⟨#[85]⟩) (hx : ∀ x ∈ xs, NoU x) : NoU (.mk n xs) := by
 intro k hk
 rw [Tm.knots] at hk
 rcases List.mem_cons.1 hk with rfl | hk
 ·exact hn
 ·obtain ⟨x, hx', hk⟩ := I_ hk
  exact hx x hx' k hk
theorem Pm (l : List Int) (hl : ∀ n ∈ l, inR .i64 n) (hm : l.length ≤ maxLen) (vars : Int) (hv : 1 ≤ vars ∧ vars ≤ 4) : ∀ (most : Nat) (at_ : Nat), most ≤ 1000 → at_ + 2 * most ≤ 900000 → ∃ t : Tm, Cr l at_ most vars t ∧ t.size + 1 ≤ max 2 (2 * most) ∧ t.chk = 0 ∧ Gh vars t ∧ (t.lvs ≤ Ep most ∧ (vars = 3 → NoU t)) := by
 intro most
 induction most using Nat.strongRecOn with
 | _ most ih =>
 intro at_ h1000 hat
 have hraw := PS l at_ (by omega) hl hm
 have hr := Gr l at_
 generalize GX l at_ = c at hraw hr
 have d5 := Dr (x := c) (n := 5) (by omega) (by omega)
 have d15 := Dr (x := c) (n := 15) (by omega) (by omega)
 have p5 := DB c 5 (by rw [Ci]; omega) (by omega)
 have q5 := BC c 5 (by omega)
 have p53 := DB (c / 5) 3 (by rw [Ci]; omega) (by omega)
 have q53 := BC (c / 5) 3 (by omega)
 have p54 := DB (c / 5) 4 (by rw [Ci]; omega) (by omega)
 have q54 := BC (c / 5) 4 (by omega)
 have p15 := DB (c / 15) vars (by rw [Ci]; omega) (by omega)
 have q15 := BC (c / 15) vars (by omega)
 have p153 := DB (c / 15) 3 (by rw [Ci]; omega) (by omega)
 have q153 := BC (c / 15) 3 (by omega)
 generalize Bj c 5 = x5 at p5 q5
 generalize Bj (c / 5) 3 = x53 at p53 q53
 generalize Bj (c / 5) 4 = x54 at p54 q54
 generalize Bj (c / 15) vars = x15 at p15 q15
 generalize Bj (c / 15) 3 = x153 at p153 q153
 have hv0 : vars > 0 := by omega
 by_cases hleaf : (most : Int) < 3 ∨ x5 < 2
 ·by_cases hvar : 0 < x53
  ·obtain ⟨nm, hnm, hch, hX0, hX, hXU⟩ : ∃ nm, [([.str ⟨#[88]⟩] : List SV), [.str ⟨#[89]⟩], [.str ⟨#[90]⟩], [.str ⟨#[85]⟩]][x15.toNat]? = some [.str nm] ∧ (Tm.mk nm []).chk = 0 ∧ nm ∈ Bk ∧ (vars = 1 → nm = ⟨#[88]⟩) ∧ (vars = 3 → nm ≠ ⟨#[85]⟩) := by
    have : x15.toNat = 0 ∨ x15.toNat = 1 ∨ x15.toNat = 2 ∨ x15.toNat = 3 := by omega
    rcases this with h | h | h | h <;> rw [h] <;> first | exact ⟨_, rfl, by decide, by simp [Bk], fun _ => rfl, fun _ => by decide⟩ | exact ⟨_, rfl, by decide, by simp [Bk], fun h1 => by omega, fun _ => by decide⟩ | exact ⟨_, rfl, by decide, by simp [Bk], fun h1 => by omega, fun h1 => by omega⟩
   refine ⟨.mk nm [], ?_, by simp only [Tm.size, Tm.sizes]; omega, hch, Cv hX0 (fun _ h1 => hX h1) (by simp), (by have := It most; simp [Tm.lvs, Tm.lvsL]; omega), fun h3 => Gz (hXU h3) (by simp)⟩
   unfold Cr
   refine DT.ac fun C hC => ?_
   unfold Cn
   repeat' with_reducible first | refine W ?_ | refine Z0 ?_ | ((first | refine Wo fun K hK => ?_ | refine Wq ?_ | refine Wr ?_); (try simp only [go_sem, fN, seval, eT, iR]); (repeat refine Ai ?_); (try (refine hK _ ?_; clear hK K)))
   refine ⟨_, hraw, ?_⟩
   by_cases hm3 : (most : Int) < 3
   ·repeat' with_reducible first | refine W ?_ | refine Z0 ?_ | ((first | refine Wo fun K hK => ?_ | refine Wq ?_ | refine Wr ?_); (try simp only [go_sem, fN, seval, eT, iR, hm3]); (repeat refine Ai ?_); (try (refine hK _ ?_; clear hK K)))
    with_reducible refine Wp ?_
    simp only [go_sem, fN, seval, true_implies, false_implies, implies_true, dT, dF, nL]
    (try with_reducible refine iC ?_)
    repeat' with_reducible first | refine W ?_ | refine Z0 ?_ | ((first | refine Wo fun K hK => ?_ | refine Wq ?_ | refine Wr ?_); (try simp only [go_sem, fN, seval, eT, iR, hv0, d5.1]); (repeat refine Ai ?_); (try (refine hK _ ?_; clear hK K)))
    refine ⟨_, p53, ?_⟩
    repeat' with_reducible first | refine W ?_ | refine Z0 ?_ | ((first | refine Wo fun K hK => ?_ | refine Wq ?_ | refine Wr ?_); (try simp only [go_sem, fN, seval, eT, iR, hv0, d5.1, hvar]); (repeat refine Ai ?_); (try (refine hK _ ?_; clear hK K)))
    with_reducible refine Wp ?_
    simp only [go_sem, fN, seval, true_implies, false_implies, implies_true, dT, dF, nL]
    (try with_reducible refine iC ?_)
    repeat' with_reducible first | refine W ?_ | refine Z0 ?_ | ((first | refine Wo fun K hK => ?_ | refine Wq ?_ | refine Wr ?_); (try simp only [go_sem, fN, seval, eT, iR, d15.1]); (repeat refine Ai ?_); (try (refine hK _ ?_; clear hK K)))
    refine ⟨_, p15, ?_⟩
    repeat' with_reducible first | refine W ?_ | refine Z0 ?_ | ((first | refine Wo fun K hK => ?_ | refine Wq ?_ | refine Wr ?_); (try simp only [go_sem, fN, seval, eT, iR, hnm, q15.1]); (repeat refine Ai ?_); (try (refine hK _ ?_; clear hK K)))
    refine ⟨_, JR nm, ?_⟩
    repeat' with_reducible first | refine W ?_ | refine Z0 ?_ | ((first | refine Wo fun K hK => ?_ | refine Wq ?_ | refine Wr ?_); (try simp only [go_sem, fN, seval, eT, iR]); (repeat refine Ai ?_); (try (refine hK _ ?_; clear hK K)))
    simp only [go_sem, fN, seval, AM, AS.result, AB, AD, AI]
    simp only [AV.tup.injEq, AV.agg.injEq, AV.one.injEq, AC.st.injEq, SV.int.injEq, SV.str.injEq, SV.bool.injEq, SV.list.injEq, List.cons.injEq, Option.some.injEq, true_and, and_true, eq_self, Ac, Tm.args_mk, Tm.name_mk, List.map_cons, List.map_nil, List.map_append, Tm.size, Tm.sizes]
    omega
   ·have h5 : x5 < 2 := by omega
    repeat' (first | (with_reducible first | refine W ?_ | refine Z0 ?_ | ((first | refine Wo fun K hK => ?_ | refine Wq ?_ | refine Wr ?_); (try simp only [go_sem, fN, seval, eT, iR, hm3, h5]); (repeat refine Ai ?_); (try (refine hK _ ?_; clear hK K)))) | refine Cg _ (p5) ?_)
    with_reducible refine Wp ?_
    simp only [go_sem, fN, seval, true_implies, false_implies, implies_true, dT, dF, nL]
    (try with_reducible refine iC ?_)
    repeat' with_reducible first | refine W ?_ | refine Z0 ?_ | ((first | refine Wo fun K hK => ?_ | refine Wq ?_ | refine Wr ?_); (try simp only [go_sem, fN, seval, eT, iR, hv0, d5.1]); (repeat refine Ai ?_); (try (refine hK _ ?_; clear hK K)))
    refine ⟨_, p53, ?_⟩
    repeat' with_reducible first | refine W ?_ | refine Z0 ?_ | ((first | refine Wo fun K hK => ?_ | refine Wq ?_ | refine Wr ?_); (try simp only [go_sem, fN, seval, eT, iR, hv0, d5.1, hvar]); (repeat refine Ai ?_); (try (refine hK _ ?_; clear hK K)))
    with_reducible refine Wp ?_
    simp only [go_sem, fN, seval, true_implies, false_implies, implies_true, dT, dF, nL]
    (try with_reducible refine iC ?_)
    repeat' with_reducible first | refine W ?_ | refine Z0 ?_ | ((first | refine Wo fun K hK => ?_ | refine Wq ?_ | refine Wr ?_); (try simp only [go_sem, fN, seval, eT, iR, d15.1]); (repeat refine Ai ?_); (try (refine hK _ ?_; clear hK K)))
    refine ⟨_, p15, ?_⟩
    repeat' with_reducible first | refine W ?_ | refine Z0 ?_ | ((first | refine Wo fun K hK => ?_ | refine Wq ?_ | refine Wr ?_); (try simp only [go_sem, fN, seval, eT, iR, hnm, q15.1]); (repeat refine Ai ?_); (try (refine hK _ ?_; clear hK K)))
    refine ⟨_, JR nm, ?_⟩
    repeat' with_reducible first | refine W ?_ | refine Z0 ?_ | ((first | refine Wo fun K hK => ?_ | refine Wq ?_ | refine Wr ?_); (try simp only [go_sem, fN, seval, eT, iR]); (repeat refine Ai ?_); (try (refine hK _ ?_; clear hK K)))
    simp only [go_sem, fN, seval, AM, AS.result, AB, AD, AI]
    simp only [AV.tup.injEq, AV.agg.injEq, AV.one.injEq, AC.st.injEq, SV.int.injEq, SV.str.injEq, SV.bool.injEq, SV.list.injEq, List.cons.injEq, Option.some.injEq, true_and, and_true, eq_self, Ac, Tm.args_mk, Tm.name_mk, List.map_cons, List.map_nil, List.map_append, Tm.size, Tm.sizes]
    omega
  ·obtain ⟨nm, hnm, hch, hX0, hX⟩ : ∃ nm, [([.str ⟨#[97]⟩] : List SV), [.str ⟨#[98]⟩], [.str ⟨#[99]⟩]][x153.toNat]? = some [.str nm] ∧ (Tm.mk nm []).chk = 0 ∧ nm ∈ Bk ∧ AW nm = false := by
    have : x153.toNat = 0 ∨ x153.toNat = 1 ∨ x153.toNat = 2 := by omega
    rcases this with h | h | h <;> rw [h] <;> exact ⟨_, rfl, by decide, by simp [Bk], by decide⟩
   refine ⟨.mk nm [], ?_, by simp only [Tm.size, Tm.sizes]; omega, hch, Cv hX0 (fun h => by rw [hX] at h; cases h) (by simp), (by have := It most; simp [Tm.lvs, Tm.lvsL]; omega), fun h3 => Gz (fun e => by rw [e] at hX; exact absurd hX (by decide)) (by simp)⟩
   unfold Cr
   refine DT.ac fun C hC => ?_
   unfold Cn
   repeat' with_reducible first | refine W ?_ | refine Z0 ?_ | ((first | refine Wo fun K hK => ?_ | refine Wq ?_ | refine Wr ?_); (try simp only [go_sem, fN, seval, eT, iR]); (repeat refine Ai ?_); (try (refine hK _ ?_; clear hK K)))
   refine ⟨_, hraw, ?_⟩
   by_cases hm3 : (most : Int) < 3
   ·repeat' with_reducible first | refine W ?_ | refine Z0 ?_ | ((first | refine Wo fun K hK => ?_ | refine Wq ?_ | refine Wr ?_); (try simp only [go_sem, fN, seval, eT, iR, hm3]); (repeat refine Ai ?_); (try (refine hK _ ?_; clear hK K)))
    with_reducible refine Wp ?_
    simp only [go_sem, fN, seval, true_implies, false_implies, implies_true, dT, dF, nL]
    (try with_reducible refine iC ?_)
    repeat' with_reducible first | refine W ?_ | refine Z0 ?_ | ((first | refine Wo fun K hK => ?_ | refine Wq ?_ | refine Wr ?_); (try simp only [go_sem, fN, seval, eT, iR, hv0, d5.1]); (repeat refine Ai ?_); (try (refine hK _ ?_; clear hK K)))
    refine ⟨_, p53, ?_⟩
    repeat' with_reducible first | refine W ?_ | refine Z0 ?_ | ((first | refine Wo fun K hK => ?_ | refine Wq ?_ | refine Wr ?_); (try simp only [go_sem, fN, seval, eT, iR, hv0, d5.1, hvar]); (repeat refine Ai ?_); (try (refine hK _ ?_; clear hK K)))
    with_reducible refine Wp ?_
    simp only [go_sem, fN, seval, true_implies, false_implies, implies_true, dT, dF, nL]
    (try with_reducible refine iC ?_)
    repeat' with_reducible first | refine W ?_ | refine Z0 ?_ | ((first | refine Wo fun K hK => ?_ | refine Wq ?_ | refine Wr ?_); (try simp only [go_sem, fN, seval, eT, iR, d15.1]); (repeat refine Ai ?_); (try (refine hK _ ?_; clear hK K)))
    refine ⟨_, p153, ?_⟩
    repeat' with_reducible first | refine W ?_ | refine Z0 ?_ | ((first | refine Wo fun K hK => ?_ | refine Wq ?_ | refine Wr ?_); (try simp only [go_sem, fN, seval, eT, iR, hnm, q153.1]); (repeat refine Ai ?_); (try (refine hK _ ?_; clear hK K)))
    refine ⟨_, JR nm, ?_⟩
    repeat' with_reducible first | refine W ?_ | refine Z0 ?_ | ((first | refine Wo fun K hK => ?_ | refine Wq ?_ | refine Wr ?_); (try simp only [go_sem, fN, seval, eT, iR]); (repeat refine Ai ?_); (try (refine hK _ ?_; clear hK K)))
    simp only [go_sem, fN, seval, AM, AS.result, AB, AD, AI]
    simp only [AV.tup.injEq, AV.agg.injEq, AV.one.injEq, AC.st.injEq, SV.int.injEq, SV.str.injEq, SV.bool.injEq, SV.list.injEq, List.cons.injEq, Option.some.injEq, true_and, and_true, eq_self, Ac, Tm.args_mk, Tm.name_mk, List.map_cons, List.map_nil, List.map_append, Tm.size, Tm.sizes]
    omega
   ·have h5 : x5 < 2 := by omega
    repeat' (first | (with_reducible first | refine W ?_ | refine Z0 ?_ | ((first | refine Wo fun K hK => ?_ | refine Wq ?_ | refine Wr ?_); (try simp only [go_sem, fN, seval, eT, iR, hm3, h5]); (repeat refine Ai ?_); (try (refine hK _ ?_; clear hK K)))) | refine Cg _ (p5) ?_)
    with_reducible refine Wp ?_
    simp only [go_sem, fN, seval, true_implies, false_implies, implies_true, dT, dF, nL]
    (try with_reducible refine iC ?_)
    repeat' with_reducible first | refine W ?_ | refine Z0 ?_ | ((first | refine Wo fun K hK => ?_ | refine Wq ?_ | refine Wr ?_); (try simp only [go_sem, fN, seval, eT, iR, hv0, d5.1]); (repeat refine Ai ?_); (try (refine hK _ ?_; clear hK K)))
    refine ⟨_, p53, ?_⟩
    repeat' with_reducible first | refine W ?_ | refine Z0 ?_ | ((first | refine Wo fun K hK => ?_ | refine Wq ?_ | refine Wr ?_); (try simp only [go_sem, fN, seval, eT, iR, hv0, d5.1, hvar]); (repeat refine Ai ?_); (try (refine hK _ ?_; clear hK K)))
    with_reducible refine Wp ?_
    simp only [go_sem, fN, seval, true_implies, false_implies, implies_true, dT, dF, nL]
    (try with_reducible refine iC ?_)
    repeat' with_reducible first | refine W ?_ | refine Z0 ?_ | ((first | refine Wo fun K hK => ?_ | refine Wq ?_ | refine Wr ?_); (try simp only [go_sem, fN, seval, eT, iR, d15.1]); (repeat refine Ai ?_); (try (refine hK _ ?_; clear hK K)))
    refine ⟨_, p153, ?_⟩
    repeat' with_reducible first | refine W ?_ | refine Z0 ?_ | ((first | refine Wo fun K hK => ?_ | refine Wq ?_ | refine Wr ?_); (try simp only [go_sem, fN, seval, eT, iR, hnm, q153.1]); (repeat refine Ai ?_); (try (refine hK _ ?_; clear hK K)))
    refine ⟨_, JR nm, ?_⟩
    repeat' with_reducible first | refine W ?_ | refine Z0 ?_ | ((first | refine Wo fun K hK => ?_ | refine Wq ?_ | refine Wr ?_); (try simp only [go_sem, fN, seval, eT, iR]); (repeat refine Ai ?_); (try (refine hK _ ?_; clear hK K)))
    simp only [go_sem, fN, seval, AM, AS.result, AB, AD, AI]
    simp only [AV.tup.injEq, AV.agg.injEq, AV.one.injEq, AC.st.injEq, SV.int.injEq, SV.str.injEq, SV.bool.injEq, SV.list.injEq, List.cons.injEq, Option.some.injEq, true_and, and_true, eq_self, Ac, Tm.args_mk, Tm.name_mk, List.map_cons, List.map_nil, List.map_append, Tm.size, Tm.sizes]
    omega
 ·have hm3 : ¬ (most : Int) < 3 := by omega
  have h5 : ¬ x5 < 2 := by omega
  by_cases h0 : x54 = 0
  ·obtain ⟨t, ht, hs, hc1, hX1, hL1, hU1⟩ := ih (most - 1) (by omega) (at_ + 1) (by omega) (by omega)
   unfold Cr at ht
   rw [show (((at_ + 1 : Nat) : Int)) = (at_ : Int) + 1 by omega, show (((most - 1 : Nat) : Int)) = (most : Int) - 1 by omega] at ht
   refine ⟨.mk ⟨#[104]⟩ [t], ?_, by simp only [Tm.size, Tm.sizes]; omega, HW (by decide) (by decide) (by simp [hc1]), Cv (by simp [Bk]) (fun h => absurd h (by decide)) (by simp [hX1]), (by have := Ie (m := most) (by omega); simp [Tm.lvs, Tm.lvsL]; omega), fun h3 => Gz (by decide) (by simp [hU1 h3])⟩
   unfold Cr
   subst h0
   refine DT.ac fun C hC => ?_
   unfold Cn
   repeat' with_reducible first | refine W ?_ | refine Z0 ?_ | ((first | refine Wo fun K hK => ?_ | refine Wq ?_ | refine Wr ?_); (try simp only [go_sem, fN, seval, eT, iR]); (repeat refine Ai ?_); (try (refine hK _ ?_; clear hK K)))
   refine ⟨_, hraw, ?_⟩
   repeat' with_reducible first | refine W ?_ | refine Z0 ?_ | ((first | refine Wo fun K hK => ?_ | refine Wq ?_ | refine Wr ?_); (try simp only [go_sem, fN, seval, eT, iR, hm3]); (repeat refine Ai ?_); (try (refine hK _ ?_; clear hK K)))
   refine ⟨_, p5, ?_⟩
   repeat' with_reducible first | refine W ?_ | refine Z0 ?_ | ((first | refine Wo fun K hK => ?_ | refine Wq ?_ | refine Wr ?_); (try simp only [go_sem, fN, seval, eT, iR, h5]); (repeat refine Ai ?_); (try (refine hK _ ?_; clear hK K)))
   with_reducible refine Wp ?_
   simp only [go_sem, fN, seval, true_implies, false_implies, implies_true, dT, dF, nL]
   (try with_reducible refine iC ?_)
   repeat' with_reducible first | refine W ?_ | refine Z0 ?_ | ((first | refine Wo fun K hK => ?_ | refine Wq ?_ | refine Wr ?_); (try simp only [go_sem, fN, seval, eT, iR, d5.1]); (repeat refine Ai ?_); (try (refine hK _ ?_; clear hK K)))
   refine ⟨_, p54, ?_⟩
   repeat' with_reducible first | refine W ?_ | refine Z0 ?_ | ((first | refine Wo fun K hK => ?_ | refine Wq ?_ | refine Wr ?_); (try simp only [go_sem, fN, seval, eT, iR]); (repeat refine Ai ?_); (try (refine hK _ ?_; clear hK K)))
   with_reducible refine Wp ?_
   simp only [go_sem, fN, seval, true_implies, false_implies, implies_true, dT, dF, nL]
   (try with_reducible refine iC ?_)
   repeat' with_reducible first | refine W ?_ | refine Z0 ?_ | ((first | refine Wo fun K hK => ?_ | refine Wq ?_ | refine Wr ?_); (try simp only [go_sem, fN, seval, eT, iR]); (repeat refine Ai ?_); (try (refine hK _ ?_; clear hK K)))
   refine ⟨_, ht, ?_⟩
   repeat' with_reducible first | refine W ?_ | refine Z0 ?_ | ((first | refine Wo fun K hK => ?_ | refine Wq ?_ | refine Wr ?_); (try simp only [go_sem, fN, seval, eT, iR]); (repeat refine Ai ?_); (try (refine hK _ ?_; clear hK K)))
   simp only [go_sem, fN, seval, AM, AS.result, AB, AD, AI]
   simp only [AV.tup.injEq, AV.agg.injEq, AV.one.injEq, AC.st.injEq, SV.int.injEq, SV.str.injEq, SV.bool.injEq, SV.list.injEq, List.cons.injEq, Option.some.injEq, true_and, and_true, eq_self, Ac, Tm.args_mk, Tm.name_mk, List.map_cons, List.map_nil, List.map_append, Tm.size, Tm.sizes]
   omega
  by_cases h1 : x54 = 1
  ·obtain ⟨t, ht, hs, hc1, hX1, hL1, hU1⟩ := ih (most - 1) (by omega) (at_ + 1) (by omega) (by omega)
   unfold Cr at ht
   rw [show (((at_ + 1 : Nat) : Int)) = (at_ : Int) + 1 by omega, show (((most - 1 : Nat) : Int)) = (most : Int) - 1 by omega] at ht
   refine ⟨.mk ⟨#[107]⟩ [t], ?_, by simp only [Tm.size, Tm.sizes]; omega, HW (by decide) (by decide) (by simp [hc1]), Cv (by simp [Bk]) (fun h => absurd h (by decide)) (by simp [hX1]), (by have := Ie (m := most) (by omega); simp [Tm.lvs, Tm.lvsL]; omega), fun h3 => Gz (by decide) (by simp [hU1 h3])⟩
   unfold Cr
   subst h1
   refine DT.ac fun C hC => ?_
   unfold Cn
   repeat' with_reducible first | refine W ?_ | refine Z0 ?_ | ((first | refine Wo fun K hK => ?_ | refine Wq ?_ | refine Wr ?_); (try simp only [go_sem, fN, seval, eT, iR]); (repeat refine Ai ?_); (try (refine hK _ ?_; clear hK K)))
   refine ⟨_, hraw, ?_⟩
   repeat' with_reducible first | refine W ?_ | refine Z0 ?_ | ((first | refine Wo fun K hK => ?_ | refine Wq ?_ | refine Wr ?_); (try simp only [go_sem, fN, seval, eT, iR, hm3]); (repeat refine Ai ?_); (try (refine hK _ ?_; clear hK K)))
   refine ⟨_, p5, ?_⟩
   repeat' with_reducible first | refine W ?_ | refine Z0 ?_ | ((first | refine Wo fun K hK => ?_ | refine Wq ?_ | refine Wr ?_); (try simp only [go_sem, fN, seval, eT, iR, h5]); (repeat refine Ai ?_); (try (refine hK _ ?_; clear hK K)))
   with_reducible refine Wp ?_
   simp only [go_sem, fN, seval, true_implies, false_implies, implies_true, dT, dF, nL]
   (try with_reducible refine iC ?_)
   repeat' with_reducible first | refine W ?_ | refine Z0 ?_ | ((first | refine Wo fun K hK => ?_ | refine Wq ?_ | refine Wr ?_); (try simp only [go_sem, fN, seval, eT, iR, d5.1]); (repeat refine Ai ?_); (try (refine hK _ ?_; clear hK K)))
   refine ⟨_, p54, ?_⟩
   repeat' with_reducible first | refine W ?_ | refine Z0 ?_ | ((first | refine Wo fun K hK => ?_ | refine Wq ?_ | refine Wr ?_); (try simp only [go_sem, fN, seval, eT, iR]); (repeat refine Ai ?_); (try (refine hK _ ?_; clear hK K)))
   with_reducible refine Wp ?_
   simp only [go_sem, fN, seval, true_implies, false_implies, implies_true, dT, dF, nL]
   (try with_reducible refine iC ?_)
   repeat' with_reducible first | refine W ?_ | refine Z0 ?_ | ((first | refine Wo fun K hK => ?_ | refine Wq ?_ | refine Wr ?_); (try simp only [go_sem, fN, seval, eT, iR]); (repeat refine Ai ?_); (try (refine hK _ ?_; clear hK K)))
   with_reducible refine Wp ?_
   simp only [go_sem, fN, seval, true_implies, false_implies, implies_true, dT, dF, nL]
   (try with_reducible refine iC ?_)
   repeat' (first | (with_reducible first | refine W ?_ | refine Z0 ?_ | ((first | refine Wo fun K hK => ?_ | refine Wq ?_ | refine Wr ?_); (try simp only [go_sem, fN, seval, eT, iR]); (repeat refine Ai ?_); (try (refine hK _ ?_; clear hK K)))) | refine Cg _ (ht) ?_)
   simp only [go_sem, fN, seval, AM, AS.result, AB, AD, AI]
   simp only [AV.tup.injEq, AV.agg.injEq, AV.one.injEq, AC.st.injEq, SV.int.injEq, SV.str.injEq, SV.bool.injEq, SV.list.injEq, List.cons.injEq, Option.some.injEq, true_and, and_true, eq_self, Ac, Tm.args_mk, Tm.name_mk, List.map_cons, List.map_nil, List.map_append, Tm.size, Tm.sizes]
   omega
  have d2 := Dr (x := (most : Int)) (n := 2) (by omega) (by omega)
  have e2 : (most : Int) / 2 = ((most / 2 : Nat) : Int) := by omega
  obtain ⟨t, ht, hs, hc1, hX1, hL1, hU1⟩ := ih (most / 2) (by omega) (at_ + 1) (by omega) (by omega)
  obtain ⟨u, hu, hs', hc2, hX2, hL2, hU2⟩ := ih (most / 2) (by omega) (at_ + 1 + t.size) (by omega) (by omega)
  obtain ⟨nm, hnm, hok, hnv, hin⟩ : ∃ nm, [([.str ⟨#[102]⟩] : List SV), [.str ⟨#[103]⟩]][(x54 - 2).toNat]? = some [.str nm] ∧ A0 nm = true ∧ AW nm = false ∧ nm ∈ Bk := by
   have : (x54 - 2).toNat = 0 ∨ (x54 - 2).toNat = 1 := by omega
   rcases this with h | h <;> rw [h] <;> exact ⟨_, rfl, by decide, by decide, by simp [Bk]⟩
  refine ⟨.mk nm [t, u], ?_, by simp only [Tm.size, Tm.sizes]; omega, HW hok hnv (by simp [hc1, hc2]), Cv hin (fun h => by rw [hnv] at h; cases h) (by simp [hX1, hX2]), (by have := MS (m := most) (by omega); simp [Tm.lvs, Tm.lvsL]; omega), fun h3 => Gz (fun e => by rw [e] at hnv; exact absurd hnv (by decide)) (by simp [hU1 h3, hU2 h3])⟩
  unfold Cr at ht hu ⊢
  rw [show (((at_ + 1 : Nat) : Int)) = (at_ : Int) + 1 by omega] at ht
  refine DT.ac fun C hC => ?_
  unfold Cn
  repeat' with_reducible first | refine W ?_ | refine Z0 ?_ | ((first | refine Wo fun K hK => ?_ | refine Wq ?_ | refine Wr ?_); (try simp only [go_sem, fN, seval, eT, iR]); (repeat refine Ai ?_); (try (refine hK _ ?_; clear hK K)))
  refine ⟨_, hraw, ?_⟩
  repeat' with_reducible first | refine W ?_ | refine Z0 ?_ | ((first | refine Wo fun K hK => ?_ | refine Wq ?_ | refine Wr ?_); (try simp only [go_sem, fN, seval, eT, iR, hm3]); (repeat refine Ai ?_); (try (refine hK _ ?_; clear hK K)))
  refine ⟨_, p5, ?_⟩
  repeat' with_reducible first | refine W ?_ | refine Z0 ?_ | ((first | refine Wo fun K hK => ?_ | refine Wq ?_ | refine Wr ?_); (try simp only [go_sem, fN, seval, eT, iR, h5]); (repeat refine Ai ?_); (try (refine hK _ ?_; clear hK K)))
  with_reducible refine Wp ?_
  simp only [go_sem, fN, seval, true_implies, false_implies, implies_true, dT, dF, nL]
  (try with_reducible refine iC ?_)
  repeat' with_reducible first | refine W ?_ | refine Z0 ?_ | ((first | refine Wo fun K hK => ?_ | refine Wq ?_ | refine Wr ?_); (try simp only [go_sem, fN, seval, eT, iR, d5.1]); (repeat refine Ai ?_); (try (refine hK _ ?_; clear hK K)))
  refine ⟨_, p54, ?_⟩
  repeat' with_reducible first | refine W ?_ | refine Z0 ?_ | ((first | refine Wo fun K hK => ?_ | refine Wq ?_ | refine Wr ?_); (try simp only [go_sem, fN, seval, eT, iR]); (repeat refine Ai ?_); (try (refine hK _ ?_; clear hK K)))
  with_reducible refine Wp ?_
  simp only [go_sem, fN, seval, true_implies, false_implies, implies_true, dT, dF, nL, h0]
  (try with_reducible refine iC ?_)
  repeat' with_reducible first | refine W ?_ | refine Z0 ?_ | ((first | refine Wo fun K hK => ?_ | refine Wq ?_ | refine Wr ?_); (try simp only [go_sem, fN, seval, eT, iR]); (repeat refine Ai ?_); (try (refine hK _ ?_; clear hK K)))
  with_reducible refine Wp ?_
  simp only [go_sem, fN, seval, true_implies, false_implies, implies_true, dT, dF, nL, h1]
  (try with_reducible refine iC ?_)
  repeat' (first | (with_reducible first | refine W ?_ | refine Z0 ?_ | ((first | refine Wo fun K hK => ?_ | refine Wq ?_ | refine Wr ?_); (try simp only [go_sem, fN, seval, eT, iR, d2.1, e2, d5.1, hnm]); (repeat refine Ai ?_); (try (refine hK _ ?_; clear hK K)))) | refine Cg _ (ht) ?_ | refine Cg _ (hu) ?_ | refine Cg _ (p54) ?_)
  simp only [go_sem, fN, seval, AM, AS.result, AB, AD, AI]
  simp only [AV.tup.injEq, AV.agg.injEq, AV.one.injEq, AC.st.injEq, SV.int.injEq, SV.str.injEq, SV.bool.injEq, SV.list.injEq, List.cons.injEq, Option.some.injEq, true_and, and_true, eq_self, Ac, Tm.args_mk, Tm.name_mk, List.map_cons, List.map_nil, List.map_append, Tm.size, Tm.sizes]
  omega
theorem Pj (l : List Int) (hl : ∀ n ∈ l, inR .i64 n) (hm : l.length ≤ maxLen) (vars : Int) (hv : 1 ≤ vars ∧ vars ≤ 4) (most at_ : Nat) (h1 : most ≤ 1000) (h2 : at_ + 2 * most ≤ 900000) : ∃ t : Tm, Cr l at_ most vars t ∧ t.size + 1 ≤ max 2 (2 * most) ∧ t.chk = 0 ∧ Gh vars t := by
 obtain ⟨t, a, b, c, d, _⟩ := Pm l hl hm vars hv most at_ h1 h2
 exact ⟨t, a, b, c, d⟩
theorem Pi (l : List Int) (hl : ∀ n ∈ l, inR .i64 n) (hm : l.length ≤ maxLen) (vars : Int) (hv : 1 ≤ vars ∧ vars ≤ 4) (most at_ : Nat) (h1 : most ≤ 1000) (h2 : at_ + 2 * most ≤ 900000) : ∃ t : Tm, Cr l at_ most vars t ∧ t.size + 1 ≤ max 2 (2 * most) ∧ t.chk = 0 := by
 obtain ⟨t, a, b, c, _⟩ := Pj l hl hm vars hv most at_ h1 h2
 exact ⟨t, a, b, c⟩
theorem HQ (l : List Int) (hl : ∀ n ∈ l, inR .i64 n) (hm : l.length ≤ maxLen) (vars : Int) (hv : 1 ≤ vars ∧ vars ≤ 4) (most at_ : Nat) (h1 : most ≤ 1000) (h2 : at_ + 2 * most ≤ 900000) :
  ∃ t : Tm, AQ Try.prog 4 [DZ l, AR at_, AR most, AR vars] (aTm t) ∧ t.size + 1 ≤ max 2 (2 * most) ∧ t.chk = 0 := by
 obtain ⟨t, ht, hs, hc⟩ := Pi l hl hm vars hv most at_ h1 h2
 refine ⟨t, ?_, hs, hc⟩
 unfold Cr at ht
 refine Jf.ac fun C hC => ?_
 unfold GG
 repeat' (first | (with_reducible first | refine W ?_ | refine Z0 ?_ | ((first | refine Wo fun K hK => ?_ | refine Wq ?_ | refine Wr ?_); (try simp only [go_sem, fN, seval, eT, iR]); (repeat refine Ai ?_); (try (refine hK _ ?_; clear hK K)))) | refine Cg _ (ht) ?_)
 simp only [go_sem, fN, seval, AM, AS.result, AB, AD, AI]

def EC : IR :=
 (.seq (.ops [.i 8 (.mov (.c (.one (.full []))))]) (.seq (.ops [.i 9 (.mov (.c (.one (.full []))))]) (.seq (.ops [.i 12 (.buildFlat [.c (.one (.st (.str (ByteArray.mk (#[85]))))), .c (.one (.st (.str (ByteArray.mk (#[88]))))), .c (.one (.st (.str (ByteArray.mk (#[89]))))), .c (.one (.st (.str (ByteArray.mk (#[90])))))]), .m 10 12]) (.seq (.seq (.ops [.i 11 (.mov (.n 0))]) (.block 0 (.loop (.seq (.seq (.ops [.m 13 11, .i 14 (.bin .lss (.t 13) (.n 4))]) (.cond (.t 14) .skip (.exit 0))) (.seq (.block 1 (.seq (.ops [.m 17 0, .m 18 1, .m 19 11, .i 20 (.bin .add (.t 18) (.t 19)), .i 21 (.call 13 [.t 17, .t 20]), .i 22 (.call 5 [.t 21, .n 4]), .i 23 (.bin .gtr (.t 22) (.n 0))]) (.cond (.t 23) (.ops [.m 24 9, .m 25 10, .m 26 11, .i 27 (.indexAddr 1 (.t 25) (.t 26)), .l 28 27, .m 29 0, .m 30 1, .i 31 (.bin .add (.t 30) (.n 4)), .m 32 11, .i 33 (.bin .mul (.n 7) (.t 32)), .i 34 (.bin .add (.t 31) (.t 33)), .m 35 2, .m 36 3, .i 37 (.call 4 [.t 29, .t 34, .t 35, .t 36]), .i 38 (.build [.st (.str (ByteArray.mk (#[]))), .st (.str (ByteArray.mk (#[]))), .full []] [(0, 1, .t 28), (1, 2, .t 37)]), .i 39 (.buildSlice false 43 3 [.t 38]), .i 40 (.append false 43 3 56 (.t 24) (.t 39)), .m 9 40]) .skip))) (.ops [.m 15 11, .i 16 (.bin .add (.t 15) (.n 1)), .m 11 16])))))) (.seq (.ops [.m 41 9, .m 8 41]) .ret)))))
theorem Hc : OkF Try.prog 8 42 [] EC [.t 8] := .of Try.func8 rfl rfl (by kernel_rfl) rfl

def nmB (i : Nat) : ByteArray := [(⟨#[85]⟩ : ByteArray), ⟨#[88]⟩, ⟨#[89]⟩, ⟨#[90]⟩].getD i ⟨#[]⟩
theorem Jk (l : List Int) (hl : ∀ n ∈ l, inR .i64 n) (hm : l.length ≤ maxLen) (vars : Int) (hv : 1 ≤ vars ∧ vars ≤ 4) (at_ most : Nat) (hat : at_ ≤ 1000) (h12 : most ≤ 100) : ∃ bs : List Bd, AQ Try.prog 8 [DZ l, AR at_, AR most, AR vars] (I1 bs) ∧ OkB bs ∧ bs.length ≤ 4 ∧ ∀ b ∈ bs, b.2.size + 1 ≤ max 2 (2 * most) := by
 have hT : ∀ i : Nat, ∃ t : Tm, i < 4 → AQ Try.prog 4 [DZ l, AR ((at_ : Int) + 4 + 7 * i), AR most, AR vars] (aTm t) ∧ t.size + 1 ≤ max 2 (2 * most) ∧ t.chk = 0 := fun i => by
  by_cases hi : i < 4
  ·obtain ⟨t, ht, hz, hc⟩ := HQ l hl hm vars hv most (at_ + 4 + 7 * i) (by omega) (by omega)
   refine ⟨t, fun _ => ⟨?_, hz, hc⟩⟩
   rw [show (((at_ + 4 + 7 * i : Nat) : Int)) = (at_ : Int) + 4 + 7 * i by omega] at ht
   exact ht
  ·exact ⟨Tm.nil, fun h => absurd h hi⟩
 obtain ⟨T, hT⟩ := Classical.skolem.1 hT
 obtain ⟨B, hB⟩ : ∃ B : Nat → List Bd, B = fun k => ((List.range k).filter fun i => decide (0 < Bj (GX l (at_ + i)) 4)).map fun i => (nmB i, T i) := ⟨_, rfl⟩
 have hB0 : B 0 = [] := by rw [hB]; rfl
 have hBy : ∀ k, 0 < Bj (GX l (at_ + k)) 4 → B (k + 1) = B k ++ [(nmB k, T k)] := fun k h => by
  rw [hB]
  simp only [List.range_succ, List.filter_append, List.map_append]
  rw [List.filter_cons_of_pos (by simpa using h)]
  rfl
 have hBn : ∀ k, ¬ 0 < Bj (GX l (at_ + k)) 4 → B (k + 1) = B k := fun k h => by
  rw [hB]
  simp only [List.range_succ, List.filter_append, List.map_append]
  rw [List.filter_cons_of_neg (by simpa using h), List.filter_nil, List.map_nil, List.append_nil]
 have hBl : ∀ k, (B k).length ≤ k := fun k => by
  rw [hB]
  simp only [List.length_map]
  exact Nat.le_trans (List.length_filter_le _ _) (by simp)
 have hB4 : OkB (B 4) ∧ ∀ b ∈ B 4, b.2.size + 1 ≤ max 2 (2 * most) := by
  have hmem : ∀ b ∈ B 4, ∃ i, i < 4 ∧ b = (nmB i, T i) := fun b hb => by
   rw [hB] at hb
   obtain ⟨i, hi, rfl⟩ := List.mem_map.1 hb
   exact ⟨i, List.mem_range.1 (List.mem_filter.1 hi).1, rfl⟩
  have hnm : ∀ i, i < 4 → AW (nmB i) = true ∧ A0 (nmB i) = true := by decide +kernel
  refine ⟨⟨?_, fun b hb => ?_, fun b hb => ?_, fun b hb => ?_⟩, fun b hb => ?_⟩
  ·rw [hB]
   refine List.pairwise_map.2 (List.Pairwise.sublist List.filter_sublist ?_)
   have hp : ∀ i, i < 4 → ∀ j, j < 4 → i < j → sLt (nmB i) (nmB j) = true := by decide +kernel
   exact (List.pairwise_lt_range (n := 4)).imp_of_mem fun hi hj hij => hp _ (List.mem_range.1 hi) _ (List.mem_range.1 hj) hij
  ·obtain ⟨i, hi, rfl⟩ := hmem b hb
   exact (hnm i hi).1
  ·obtain ⟨i, hi, rfl⟩ := hmem b hb
   exact (hnm i hi).2
  ·obtain ⟨i, hi, rfl⟩ := hmem b hb
   exact (hT i hi).2.2
  ·obtain ⟨i, hi, rfl⟩ := hmem b hb
   exact (hT i hi).2.1
 clear hB
 refine ⟨B 4, ?_, hB4.1, hBl 4, hB4.2⟩
 have hT := fun i hi => (hT i hi).1
 refine Hc.ac fun C hC => ?_
 unfold EC
 repeat' with_reducible first | refine W ?_ | refine Z0 ?_ | ((first | refine Wo fun K hK => ?_ | refine Wp ?_ | refine Wq ?_ | refine Wr ?_); (try simp only [go_sem, fN, seval, eT, iR, dT, dF, nL]); (repeat refine Ai ?_); (try (refine hK _ ?_; clear hK K)); try refine iC ?_)
 refine IWP.ghost (Al.own 9 900 43 3 (xs := []) rfl rfl (by simp) (by rw [hC]; decide)) ?_
 refine IWP.loop (fun m x => ∃ k, k ≤ 4 ∧ m = 4 - k ∧ x.env 0 = DZ l ∧ x.env 1 = AR at_ ∧ x.env 2 = AR most ∧ x.env 3 = AR vars ∧ x.env 9 = .one (.row 900 (B k).length) ∧ x.env 10 = .one (.full [[.str ⟨#[85]⟩], [.str ⟨#[88]⟩], [.str ⟨#[89]⟩], [.str ⟨#[90]⟩]]) ∧ x.env 11 = AR k ∧ x.S 900 = some (.arow 43 3 ((B k).map Nz))) 4 ⟨0, Nat.zero_le _, rfl, rfl, rfl, rfl, rfl, by rw [hB0]; rfl, rfl, rfl, by rw [hB0]; rfl⟩ ?_
 rintro m ⟨env, S⟩ ⟨k, hk, rfl, e0, e1, e2, e3, e9, e10, e11, s900⟩
 simp only at e0 e1 e2 e3 e9 e10 e11 s900
 have hbl := hBl k
 by_cases hlt : (k : Int) < 4
 ·have hraw := PS l (at_ + k) (by omega) hl hm
  have hrr := Gr l (at_ + k)
  have hpick := DB (GX l (at_ + k)) 4 (by rw [Ci]; omega) (by omega)
  have htk := hT k (by omega)
  rw [show (((at_ + k : Nat) : Int)) = (at_ : Int) + k by omega] at hraw
  have hnm : [([.str ⟨#[85]⟩] : List SV), [.str ⟨#[88]⟩], [.str ⟨#[89]⟩], [.str ⟨#[90]⟩]][k]? = some [.str (nmB k)] := by
   match k, (show k < 4 by omega) with
   | 0, _ => rfl
   | 1, _ => rfl
   | 2, _ => rfl
   | 3, _ => rfl
  by_cases hc : 0 < Bj (GX l (at_ + k)) 4
  ·repeat' (first | (with_reducible first | refine W ?_ | refine Z0 ?_ | ((first | refine Wo fun K hK => ?_ | refine Wp ?_ | refine Wq ?_ | refine Wr ?_); (try simp only [go_sem, fN, seval, eT, iR, e0, e1, e2, e3, e9, e10, e11, s900, hlt, hc, hnm, dT, dF, nL]); (repeat refine Ai ?_); (try (refine hK _ ?_; clear hK K)); try refine iC ?_)) | refine Cg _ (hraw) ?_ | refine Cg _ (hpick) ?_ | refine Cg _ (htk) ?_)
   refine AH ⟨4 - (k + 1), by omega, k + 1, by omega, rfl, ?_⟩
   rw [hBy k hc]
   simp only [go_sem, fN, seval, eT, iR, e0, e1, e2, e3, e9, e10, e11, s900]
   refine ⟨by congr 3, ?_⟩
   rw [List.map_append]
   rfl
  ·repeat' (first | (with_reducible first | refine W ?_ | refine Z0 ?_ | ((first | refine Wo fun K hK => ?_ | refine Wp ?_ | refine Wq ?_ | refine Wr ?_); (try simp only [go_sem, fN, seval, eT, iR, e0, e1, e2, e3, e9, e10, e11, s900, hlt, hc, hnm, dT, dF, nL]); (repeat refine Ai ?_); (try (refine hK _ ?_; clear hK K)); try refine iC ?_)) | refine Cg _ (hraw) ?_ | refine Cg _ (hpick) ?_)
   refine AH ⟨4 - (k + 1), by omega, k + 1, by omega, rfl, ?_⟩
   rw [hBn k hc]
   simp only [go_sem, fN, seval, eT, iR, e0, e1, e2, e3, e9, e10, e11, s900]
   congr 3
 ·obtain rfl : k = 4 := by omega
  repeat' with_reducible first | refine W ?_ | refine Z0 ?_ | ((first | refine Wo fun K hK => ?_ | refine Wp ?_ | refine Wq ?_ | refine Wr ?_); (try simp only [go_sem, fN, seval, eT, iR, e0, e1, e9, e11, s900, hlt, dT, dF, nL]); (repeat refine Ai ?_); (try (refine hK _ ?_; clear hK K)); try refine iC ?_)
  simp only [go_sem, fN, seval, AM, AS.result, AB, AD, AI, s900]

def Fg : IR :=
 (.seq (.ops [.i 2 (.mov (.c (.one (.full []))))]) (.seq (.ops [.i 4 (.buildFlat [.c (.one (.st (.str (ByteArray.mk (#[97]))))), .c (.one (.st (.str (ByteArray.mk (#[98]))))), .c (.one (.st (.str (ByteArray.mk (#[99]))))), .c (.one (.st (.str (ByteArray.mk (#[104]))))), .c (.one (.st (.str (ByteArray.mk (#[107]))))), .c (.one (.st (.str (ByteArray.mk (#[102]))))), .c (.one (.st (.str (ByteArray.mk (#[103])))))]), .i 5 (.buildFlat [.c (.one (.st (.str (ByteArray.mk (#[103]))))), .c (.one (.st (.str (ByteArray.mk (#[102]))))), .c (.one (.st (.str (ByteArray.mk (#[107]))))), .c (.one (.st (.str (ByteArray.mk (#[104]))))), .c (.one (.st (.str (ByteArray.mk (#[99]))))), .c (.one (.st (.str (ByteArray.mk (#[98]))))), .c (.one (.st (.str (ByteArray.mk (#[97])))))]), .i 6 (.buildFlat [.c (.one (.st (.str (ByteArray.mk (#[102]))))), .c (.one (.st (.str (ByteArray.mk (#[104])))))]), .i 7 (.buildFlat [.c (.one (.st (.str (ByteArray.mk (#[101]))))), .c (.one (.st (.str (ByteArray.mk (#[102]))))), .c (.one (.st (.str (ByteArray.mk (#[105])))))]), .i 8 (.buildFlat [.c (.one (.st (.str (ByteArray.mk (#[99]))))), .c (.one (.st (.str (ByteArray.mk (#[97]))))), .c (.one (.st (.str (ByteArray.mk (#[107]))))), .c (.one (.st (.str (ByteArray.mk (#[104]))))), .c (.one (.st (.str (ByteArray.mk (#[103]))))), .c (.one (.st (.str (ByteArray.mk (#[102])))))]), .i 9 (.buildSlice false 28 1 [.t 4, .t 5, .t 6, .c (.one (.full [])), .t 7, .t 8]), .m 3 9]) (.seq (.ops [.m 10 3, .m 11 0, .m 12 3, .i 13 (.len false (.t 12)), .i 14 (.call 5 [.t 11, .t 13]), .i 15 (.indexAddr 1 (.t 10) (.t 14)), .l 16 15, .m 2 16]) .ret)))
theorem JS : OkF Try.prog 6 17 [] Fg [.t 2] := .of Try.func6 rfl rfl (by kernel_rfl) rfl

theorem NQ (m : Int) (hm : inR .i64 m) : ∃ row, AQ Try.prog 6 [AR m] (At row) ∧ BU row = 0 := by
 have r1 := BC m 6 (by omega)
 have p1 := DB m 6 hm (by omega)
 obtain ⟨k, e1⟩ : ∃ k : Nat, Bj m 6 = k := ⟨(Bj m 6).toNat, by omega⟩
 rw [e1] at p1 r1
 have key : ∀ row : List ByteArray, [([.list [[.str ⟨#[97]⟩], [.str ⟨#[98]⟩], [.str ⟨#[99]⟩], [.str ⟨#[104]⟩], [.str ⟨#[107]⟩], [.str ⟨#[102]⟩], [.str ⟨#[103]⟩]]] : List SV), [.list [[.str ⟨#[103]⟩], [.str ⟨#[102]⟩], [.str ⟨#[107]⟩], [.str ⟨#[104]⟩], [.str ⟨#[99]⟩], [.str ⟨#[98]⟩], [.str ⟨#[97]⟩]]], [.list [[.str ⟨#[102]⟩], [.str ⟨#[104]⟩]]], [.list []], [.list [[.str ⟨#[101]⟩], [.str ⟨#[102]⟩], [.str ⟨#[105]⟩]]], [.list [[.str ⟨#[99]⟩], [.str ⟨#[97]⟩], [.str ⟨#[107]⟩], [.str ⟨#[104]⟩], [.str ⟨#[103]⟩], [.str ⟨#[102]⟩]]]][k]? = some [.list (row.map FV)] → AQ Try.prog 6 [AR m] (At row) := fun row hrow => by
  refine JS.ac fun C hC => ?_
  unfold Fg
  repeat' (first | (with_reducible first | refine W ?_ | refine Z0 ?_ | ((first | refine Wo fun K hK => ?_ | refine Wp ?_ | refine Wq ?_ | refine Wr ?_); (try simp only [go_sem, fN, seval, eT, iR, hrow, dT, dF, nL]); (repeat refine Ai ?_); (try (refine hK _ ?_; clear hK K)); try refine iC ?_)) | refine Cg _ (p1) ?_)
  simp only [go_sem, fN, seval, AM, AS.result, AB, AD, AI]
 match k, (show k < 6 by omega) with
 | 0, _ => exact ⟨[⟨#[97]⟩, ⟨#[98]⟩, ⟨#[99]⟩, ⟨#[104]⟩, ⟨#[107]⟩, ⟨#[102]⟩, ⟨#[103]⟩], key _ rfl, by decide +kernel⟩
 | 1, _ => exact ⟨[⟨#[103]⟩, ⟨#[102]⟩, ⟨#[107]⟩, ⟨#[104]⟩, ⟨#[99]⟩, ⟨#[98]⟩, ⟨#[97]⟩], key _ rfl, by decide +kernel⟩
 | 2, _ => exact ⟨[⟨#[102]⟩, ⟨#[104]⟩], key _ rfl, by decide +kernel⟩
 | 3, _ => exact ⟨[], key _ rfl, by decide +kernel⟩
 | 4, _ => exact ⟨[⟨#[101]⟩, ⟨#[102]⟩, ⟨#[105]⟩], key _ rfl, by decide +kernel⟩
 | 5, _ => exact ⟨[⟨#[99]⟩, ⟨#[97]⟩, ⟨#[107]⟩, ⟨#[104]⟩, ⟨#[103]⟩, ⟨#[102]⟩], key _ rfl, by decide +kernel⟩

theorem Pv (s : List Bd) (t : Tm) (hz : t.size ≤ 1000000) : AQ Try.prog 12 [I1 s, aTm t] (aTm (t.on s)) := by
 induction h : SizeOf.sizeOf t using Nat.strongRecOn generalizing t with
 | _ N ih =>
 subst h
 have hs := Tm.size_eq t
 have hkn := Tm.length_le t.args
 by_cases hleaf : (∃ x, lookup s t.name = some x) ∧ t.args = []
 ·obtain ⟨⟨x, hx⟩, h0⟩ := hleaf
  have h0' : (t.args.length : Int) = 0 := by rw [h0]; rfl
  rw [Tm.on_leaf hx h0]
  refine Lq.ac fun C hC => ?_
  unfold JU
  repeat' (first | (with_reducible first | refine W ?_ | refine Z0 ?_ | ((first | refine Wo fun K hK => ?_ | refine Wq ?_ | refine Wr ?_); (try simp only [go_sem, fN, seval, eT, iR, hx, h0', Option.isSome_some]); (repeat refine Ai ?_); (try (refine hK _ ?_; clear hK K)))) | refine Cg _ (L8 s t.name) ?_)
  with_reducible refine Wp ?_
  simp only [go_sem, fN, seval, true_implies, false_implies, implies_true, dT, dF, nL]
  (try with_reducible refine iC ?_)
  repeat' with_reducible first | refine W ?_ | refine Z0 ?_ | ((first | refine Wo fun K hK => ?_ | refine Wq ?_ | refine Wr ?_); (try simp only [go_sem, fN, seval, eT, iR]); (repeat refine Ai ?_); (try (refine hK _ ?_; clear hK K)))
  simp only [go_sem, fN, seval, AM, AS.result, AB, AD, AI]
 ·have hon : t.on s = .mk t.name (t.args.map (Tm.on s)) := Tm.on_knot (by
   cases hl : lookup s t.name with
   | none => exact .inl rfl
   | some x => exact .inr fun h0 => hleaf ⟨⟨x, hl⟩, h0⟩)
  rw [hon]
  refine Lq.ac fun C hC => ?_
  unfold JU
  repeat' with_reducible first | refine W ?_ | refine Z0 ?_ | ((first | refine Wo fun K hK => ?_ | refine Wq ?_ | refine Wr ?_); (try simp only [go_sem, fN, seval, eT, iR]); (repeat refine Ai ?_); (try (refine hK _ ?_; clear hK K)))
  refine ⟨_, L8 s t.name, ?_⟩
  cases hl : lookup s t.name
  case' none =>
   repeat' with_reducible first | refine W ?_ | refine Z0 ?_ | ((first | refine Wo fun K hK => ?_ | refine Wq ?_ | refine Wr ?_); (try simp only [go_sem, fN, seval, eT, iR, hl, Option.isSome_none]); (repeat refine Ai ?_); (try (refine hK _ ?_; clear hK K)))
   with_reducible refine Wp ?_
   simp only [go_sem, fN, seval, true_implies, false_implies, implies_true, dT, dF, nL]
   (try with_reducible refine iC ?_)
   repeat' with_reducible first | refine W ?_ | refine Z0 ?_ | ((first | refine Wo fun K hK => ?_ | refine Wq ?_ | refine Wr ?_); (try simp only [go_sem, fN, seval, eT, iR]); (repeat refine Ai ?_); (try (refine hK _ ?_; clear hK K)))
  case' some x =>
   have h0' : ¬ (t.args.length : Int) = 0 := fun h => hleaf ⟨⟨_, hl⟩, List.eq_nil_of_length_eq_zero (by omega)⟩
   repeat' with_reducible first | refine W ?_ | refine Z0 ?_ | ((first | refine Wo fun K hK => ?_ | refine Wq ?_ | refine Wr ?_); (try simp only [go_sem, fN, seval, eT, iR, hl, h0', Option.isSome_some]); (repeat refine Ai ?_); (try (refine hK _ ?_; clear hK K)))
   with_reducible refine Wp ?_
   simp only [go_sem, fN, seval, true_implies, false_implies, implies_true, dT, dF, nL]
   (try with_reducible refine iC ?_)
   repeat' with_reducible first | refine W ?_ | refine Z0 ?_ | ((first | refine Wo fun K hK => ?_ | refine Wq ?_ | refine Wr ?_); (try simp only [go_sem, fN, seval, eT, iR]); (repeat refine Ai ?_); (try (refine hK _ ?_; clear hK K)))
  all_goals
   refine IWP.ghost (Al.ownC 7 1 44 25 2 (xs := ([] : List Tm).map BI) rfl rfl rfl IY) ?_
   refine IWP.loop (fun m x => ∃ k, k ≤ t.args.length ∧ m = t.args.length - k ∧ x.env 0 = I1 s ∧ x.env 3 = .one (.ptr 3 1 0 0) ∧ x.env 4 = .one (.ptr 4 1 0 0) ∧ x.env 7 = .one (.ptr 7 1 0 0) ∧ x.S 3 = some (.box 25 [.st (.str t.name), .st (.list (t.args.map BI))]) ∧ x.S 4 = some (.box 25 [.st (.str ⟨#[]⟩), .full []]) ∧ x.S 7 = some (.box 25 [.st (.str t.name), .row 44 k]) ∧ x.S 44 = some (.arow 25 2 (((t.args.take k).map (Tm.on s)).map BI)) ∧ x.env 8 = AR k)
    t.args.length ⟨0, Nat.zero_le _, rfl, rfl, rfl, rfl, rfl, rfl, rfl, rfl, rfl, rfl⟩ ?_
   rintro m ⟨env, S⟩ ⟨k, hk, rfl, e0, e3, e4, e7, s3, s4, s7, s44, e8⟩
   simp only at e0 e3 e4 e7 s3 s4 s7 s44 e8
   have hlk : (t.args.take k).length = k := by rw [List.length_take]; omega
   by_cases hlt : (k : Int) < t.args.length
   ·obtain ⟨a, ha⟩ := Aj (show k < t.args.length by omega)
    repeat' with_reducible first | refine W ?_ | refine Z0 ?_ | ((first | refine Wo fun K hK => ?_ | refine Wq ?_ | refine Wr ?_); (try simp only [go_sem, fN, seval, eT, iR, e0, e3, e4, e7, s3, s4, s7, s44, e8, hlt]); (repeat refine Ai ?_); (try (refine hK _ ?_; clear hK K)))
    with_reducible refine Wp ?_
    simp only [go_sem, fN, seval, true_implies, false_implies, implies_true, dT, dF, nL, hlt]
    (try with_reducible refine iC ?_)
    repeat' (first | (with_reducible first | refine W ?_ | refine Z0 ?_ | ((first | refine Wo fun K hK => ?_ | refine Wq ?_ | refine Wr ?_); (try simp only [go_sem, fN, seval, eT, iR, e0, e3, e4, e7, s3, s4, s7, s44, e8, ha, hlk]); (repeat refine Ai ?_); (try (refine hK _ ?_; clear hK K)))) | refine Cg _ (ih _ (Tm.lt_of_arg (Ae ha)) a (by have := Tm.size_mem (Ae ha); omega) rfl) ?_)
    refine AH ⟨t.args.length - (k + 1), by omega, k + 1, by omega, rfl, ?_⟩
    simp only [go_sem, fN, seval, eT, iR, e0, e3, e4, e7, s3, s4, s7, s44, e8]
    exact ⟨by rw [Aa ha]; simp [Ac], by congr 3⟩
   ·repeat' with_reducible first | refine W ?_ | refine Z0 ?_ | ((first | refine Wo fun K hK => ?_ | refine Wq ?_ | refine Wr ?_); (try simp only [go_sem, fN, seval, eT, iR, e0, e3, e4, e7, s3, s4, s7, s44, e8, hlt]); (repeat refine Ai ?_); (try (refine hK _ ?_; clear hK K)))
    with_reducible refine Wp ?_
    simp only [go_sem, fN, seval, true_implies, false_implies, implies_true, dT, dF, nL, hlt]
    (try with_reducible refine iC ?_)
    have hall : t.args.take k = t.args := List.take_of_length_le (by omega)
    rw [hall] at hlk s44
    repeat' with_reducible first | refine W ?_ | refine Z0 ?_ | ((first | refine Wo fun K hK => ?_ | refine Wq ?_ | refine Wr ?_); (try simp only [go_sem, fN, seval, eT, iR, e0, e3, e4, e7, s3, s4, s7, s44, e8, hlk]); (repeat refine Ai ?_); (try (refine hK _ ?_; clear hK K)))
    simp only [go_sem, fN, seval, AM, AS.result, AB, AD, AI, e4, s44, hlk]
    rfl
theorem L3 (s : List Bd) (t : Tm) (m : Int) (h0 : 0 ≤ m) (h1 : m ≤ 9223372036854775806) : AQ Try.prog 11 [I1 s, aTm t, AR m] (AR (Az (t.on s).size m)) := by
 induction h : SizeOf.sizeOf t using Nat.strongRecOn generalizing t m with
 | _ N ih =>
 subst h
 by_cases hleaf : (∃ x, lookup s t.name = some x) ∧ t.args = []
 ·obtain ⟨⟨x, hx⟩, ha0⟩ := hleaf
  have h0' : (t.args.length : Int) = 0 := by rw [ha0]; rfl
  rw [Tm.on_leaf hx ha0]
  refine HV.ac fun C hC => ?_
  unfold FD
  repeat' (first | (with_reducible first | refine W ?_ | refine Z0 ?_ | ((first | refine Wo fun K hK => ?_ | refine Wq ?_ | refine Wr ?_); (try simp only [go_sem, fN, seval, eT, iR, hx, h0', Option.isSome_some]); (repeat refine Ai ?_); (try (refine hK _ ?_; clear hK K)))) | refine Cg _ (L8 s t.name) ?_)
  with_reducible refine Wp ?_
  simp only [go_sem, fN, seval, true_implies, false_implies, implies_true, dT, dF, nL]
  (try with_reducible refine iC ?_)
  repeat' (first | (with_reducible first | refine W ?_ | refine Z0 ?_ | ((first | refine Wo fun K hK => ?_ | refine Wq ?_ | refine Wr ?_); (try simp only [go_sem, fN, seval, eT, iR]); (repeat refine Ai ?_); (try (refine hK _ ?_; clear hK K)))) | refine Cg _ (Fd x m h0 h1) ?_)
  simp only [go_sem, fN, seval, AM, AS.result, AB, AD, AI]
 ·have hon : t.on s = .mk t.name (t.args.map (Tm.on s)) := Tm.on_knot (by
   cases hl : lookup s t.name with
   | none => exact .inl rfl
   | some x => exact .inr fun h0 => hleaf ⟨⟨x, hl⟩, h0⟩)
  have hs : (t.on s).size = 1 + Tm.sizes (t.args.map (Tm.on s)) := by rw [hon]; rfl
  refine HV.ac fun C hC => ?_
  unfold FD
  refine IWP.learn 1 (by omega) fun hkn => ?_
  have hkn := EL hkn
  repeat' with_reducible first | refine W ?_ | refine Z0 ?_ | ((first | refine Wo fun K hK => ?_ | refine Wq ?_ | refine Wr ?_); (try simp only [go_sem, fN, seval, eT, iR]); (repeat refine Ai ?_); (try (refine hK _ ?_; clear hK K)))
  refine ⟨_, L8 s t.name, ?_⟩
  cases hl : lookup s t.name
  case' none =>
   repeat' with_reducible first | refine W ?_ | refine Z0 ?_ | ((first | refine Wo fun K hK => ?_ | refine Wq ?_ | refine Wr ?_); (try simp only [go_sem, fN, seval, eT, iR, hl, Option.isSome_none]); (repeat refine Ai ?_); (try (refine hK _ ?_; clear hK K)))
   with_reducible refine Wp ?_
   simp only [go_sem, fN, seval, true_implies, false_implies, implies_true, dT, dF, nL]
   (try with_reducible refine iC ?_)
   repeat' with_reducible first | refine W ?_ | refine Z0 ?_ | ((first | refine Wo fun K hK => ?_ | refine Wq ?_ | refine Wr ?_); (try simp only [go_sem, fN, seval, eT, iR]); (repeat refine Ai ?_); (try (refine hK _ ?_; clear hK K)))
  case' some x =>
   have h0' : ¬ (t.args.length : Int) = 0 := fun h => hleaf ⟨⟨_, hl⟩, List.eq_nil_of_length_eq_zero (by omega)⟩
   repeat' with_reducible first | refine W ?_ | refine Z0 ?_ | ((first | refine Wo fun K hK => ?_ | refine Wq ?_ | refine Wr ?_); (try simp only [go_sem, fN, seval, eT, iR, hl, h0', Option.isSome_some]); (repeat refine Ai ?_); (try (refine hK _ ?_; clear hK K)))
   with_reducible refine Wp ?_
   simp only [go_sem, fN, seval, true_implies, false_implies, implies_true, dT, dF, nL]
   (try with_reducible refine iC ?_)
   repeat' with_reducible first | refine W ?_ | refine Z0 ?_ | ((first | refine Wo fun K hK => ?_ | refine Wq ?_ | refine Wr ?_); (try simp only [go_sem, fN, seval, eT, iR]); (repeat refine Ai ?_); (try (refine hK _ ?_; clear hK K)))
  all_goals
   refine IWP.loop (fun n x => ∃ k, k ≤ t.args.length ∧ n = t.args.length - k ∧ x.env 9 = AR (Az (1 + Tm.sizes ((t.args.take k).map (Tm.on s))) m) ∧ x.env 0 = I1 s ∧ x.env 2 = AR m ∧ x.env 4 = .one (.ptr 4 1 0 0) ∧ x.env 10 = AR k ∧ x.S 4 = some (.box 25 [.st (.str t.name), .st (.list (t.args.map BI))])) t.args.length ⟨0, Nat.zero_le _, rfl, by
    simp only [go_sem, fN, seval, eT, iR]
    rw [Az]
    have z0 : Tm.sizes [] = 0 := rfl
    congr 3
    split <;> omega, rfl, rfl, rfl, rfl, rfl⟩ ?_
   rintro n ⟨env, S⟩ ⟨k, hk, rfl, e9, e0, e2, e4, e10, s4⟩
   simp only at e9 e0 e2 e4 e10 s4
   have z4 := FO (1 + Tm.sizes ((t.args.take k).map (Tm.on s))) m h0
   have zle : 1 + Tm.sizes ((t.args.take k).map (Tm.on s)) ≤ (t.on s).size := by
    rw [hs, List.map_take]
    have := Tm.sizes_take_le (t.args.map (Tm.on s)) k
    omega
   by_cases hlt : (k : Int) < t.args.length
   ·obtain ⟨a, ha⟩ := Aj (show k < t.args.length by omega)
    have ha' : (t.args.map (Tm.on s))[k]? = some (a.on s) := by rw [List.getElem?_map, ha]; rfl
    have z1 := Tm.sizes_take ha'
    rw [← List.map_take, ← List.map_take] at z1
    by_cases hb : m < Az (1 + Tm.sizes ((t.args.take k).map (Tm.on s))) m
    ·have hb' : ¬ Az (1 + Tm.sizes ((t.args.take k).map (Tm.on s))) m ≤ m := by omega
     repeat' with_reducible first | refine W ?_ | refine Z0 ?_ | ((first | refine Wo fun K hK => ?_ | refine Wq ?_ | refine Wr ?_); (try simp only [go_sem, fN, seval, eT, iR, e9, e0, e2, e4, e10, s4, hlt, hb']); (repeat refine Ai ?_); (try (refine hK _ ?_; clear hK K)))
     with_reducible refine Wp ?_
     simp only [go_sem, fN, seval, true_implies, false_implies, implies_true, dT, dF, nL, hb']
     (try with_reducible refine iC ?_)
     repeat' with_reducible first | refine W ?_ | refine Z0 ?_ | ((first | refine Wo fun K hK => ?_ | refine Wq ?_ | refine Wr ?_); (try simp only [go_sem, fN, seval, eT, iR, e9, e2]); (repeat refine Ai ?_); (try (refine hK _ ?_; clear hK K)))
     with_reducible refine Wp ?_
     simp only [go_sem, fN, seval, true_implies, false_implies, implies_true, dT, dF, nL, hb]
     (try with_reducible refine iC ?_)
     repeat' with_reducible first | refine W ?_ | refine Z0 ?_ | ((first | refine Wo fun K hK => ?_ | refine Wq ?_ | refine Wr ?_); (try simp only [go_sem, fN, seval, eT, iR, e2]); (repeat refine Ai ?_); (try (refine hK _ ?_; clear hK K)))
     simp only [go_sem, fN, seval, AM, AS.result, AB, AD, AI]
     rw [Dh hb zle]
    ·have hb' : Az (1 + Tm.sizes ((t.args.take k).map (Tm.on s))) m ≤ m := by omega
     obtain ⟨b1, b2⟩ := FZ hb
     repeat' with_reducible first | refine W ?_ | refine Z0 ?_ | ((first | refine Wo fun K hK => ?_ | refine Wq ?_ | refine Wr ?_); (try simp only [go_sem, fN, seval, eT, iR, e9, e0, e2, e4, e10, s4, hlt, hb']); (repeat refine Ai ?_); (try (refine hK _ ?_; clear hK K)))
     with_reducible refine Wp ?_
     simp only [go_sem, fN, seval, true_implies, false_implies, implies_true, dT, dF, nL, hb']
     (try with_reducible refine iC ?_)
     repeat' with_reducible first | refine W ?_ | refine Z0 ?_ | ((first | refine Wo fun K hK => ?_ | refine Wq ?_ | refine Wr ?_); (try simp only [go_sem, fN, seval, eT, iR, e9, e0, e2, e4, e10, s4, ha]); (repeat refine Ai ?_); (try (refine hK _ ?_; clear hK K)))
     refine ⟨_, ih _ (Tm.lt_of_arg (Ae ha)) a (m - Az (1 + Tm.sizes ((t.args.take k).map (Tm.on s))) m) (by omega) (by omega) rfl, ?_⟩
     have z5 := FO (a.on s).size (m - Az (1 + Tm.sizes ((t.args.take k).map (Tm.on s))) m) (by omega)
     repeat' with_reducible first | refine W ?_ | refine Z0 ?_ | ((first | refine Wo fun K hK => ?_ | refine Wq ?_ | refine Wr ?_); (try simp only [go_sem, fN, seval, eT, iR, e9, e0, e2, e4, e10, s4]); (repeat refine Ai ?_); (try (refine hK _ ?_; clear hK K)))
     refine AH ⟨t.args.length - (k + 1), by omega, k + 1, by omega, rfl, ?_⟩
     simp only [go_sem, fN, seval, eT, iR, e9, e0, e2, e4, e10, s4]
     exact ⟨by rw [b1, G2 b2, z1]; congr 4; omega, by congr 3⟩
   ·repeat' with_reducible first | refine W ?_ | refine Z0 ?_ | ((first | refine Wo fun K hK => ?_ | refine Wq ?_ | refine Wr ?_); (try simp only [go_sem, fN, seval, eT, iR, e9, e0, e2, e4, e10, s4, hlt]); (repeat refine Ai ?_); (try (refine hK _ ?_; clear hK K)))
    with_reducible refine Wp ?_
    simp only [go_sem, fN, seval, true_implies, false_implies, implies_true, dT, dF, nL]
    (try with_reducible refine iC ?_)
    have hfull : 1 + Tm.sizes ((t.args.take k).map (Tm.on s)) = (t.on s).size := by rw [List.take_of_length_le (by omega), hs]
    rw [hfull] at e9 z4
    repeat' with_reducible first | refine W ?_ | refine Z0 ?_ | ((first | refine Wo fun K hK => ?_ | refine Wq ?_ | refine Wr ?_); (try simp only [go_sem, fN, seval, eT, iR, e9, e2]); (repeat refine Ai ?_); (try (refine hK _ ?_; clear hK K)))
    by_cases hb : m < Az (t.on s).size m
    ·with_reducible refine Wp ?_
     simp only [go_sem, fN, seval, true_implies, false_implies, implies_true, dT, dF, nL, hb]
     (try with_reducible refine iC ?_)
     repeat' with_reducible first | refine W ?_ | refine Z0 ?_ | ((first | refine Wo fun K hK => ?_ | refine Wq ?_ | refine Wr ?_); (try simp only [go_sem, fN, seval, eT, iR, e2]); (repeat refine Ai ?_); (try (refine hK _ ?_; clear hK K)))
     simp only [go_sem, fN, seval, AM, AS.result, AB, AD, AI]
     rw [Dh hb (Nat.le_refl _)]
    ·with_reducible refine Wp ?_
     simp only [go_sem, fN, seval, true_implies, false_implies, implies_true, dT, dF, nL, hb]
     (try with_reducible refine iC ?_)
     repeat' with_reducible first | refine W ?_ | refine Z0 ?_ | ((first | refine Wo fun K hK => ?_ | refine Wq ?_ | refine Wr ?_); (try simp only [go_sem, fN, seval, eT, iR, e9]); (repeat refine Ai ?_); (try (refine hK _ ?_; clear hK K)))
     simp only [go_sem, fN, seval, AM, AS.result, AB, AD, AI, e9]
def LP (s : List Bd) (t : Tm) : Tm × Bool := if (t.on s).size ≤ 2000 then (t.on s, true) else (Tm.nil, false)
theorem Oz (s : List Bd) (t : Tm) (hz : t.size ≤ 1000000) : AQ Try.prog 7 [I1 s, aTm t] (.tup [aTm (LP s t).1, Ag (LP s t).2]) := by
 by_cases hb : (2000 : Int) < Az (t.on s).size 2000
 ·have e : LP s t = (Tm.nil, false) := by
   unfold LP
   rw [if_neg]
   intro h
   unfold Az at hb
   split at hb <;> omega
  rw [e]
  refine Lu.ac fun C hC => ?_
  unfold JC
  repeat' (first | (with_reducible first | refine W ?_ | refine Z0 ?_ | ((first | refine Wo fun K hK => ?_ | refine Wq ?_ | refine Wr ?_); (try simp only [go_sem, fN, seval, eT, iR, hb]); (repeat refine Ai ?_); (try (refine hK _ ?_; clear hK K)))) | refine Cg _ (L3 s t 2000 (by omega) (by omega)) ?_)
  with_reducible refine Wp ?_
  simp only [go_sem, fN, seval, true_implies, false_implies, implies_true, dT, dF, nL, hb]
  (try with_reducible refine iC ?_)
  repeat' with_reducible first | refine W ?_ | refine Z0 ?_ | ((first | refine Wo fun K hK => ?_ | refine Wq ?_ | refine Wr ?_); (try simp only [go_sem, fN, seval, eT, iR]); (repeat refine Ai ?_); (try (refine hK _ ?_; clear hK K)))
  simp only [go_sem, fN, seval, AM, AS.result, AB, AD, AI]
  rfl
 ·have e : LP s t = (t.on s, true) := by
   unfold LP
   rw [if_pos]
   have := (FZ hb).2
   omega
  rw [e]
  refine Lu.ac fun C hC => ?_
  unfold JC
  repeat' (first | (with_reducible first | refine W ?_ | refine Z0 ?_ | ((first | refine Wo fun K hK => ?_ | refine Wq ?_ | refine Wr ?_); (try simp only [go_sem, fN, seval, eT, iR, hb]); (repeat refine Ai ?_); (try (refine hK _ ?_; clear hK K)))) | refine Cg _ (L3 s t 2000 (by omega) (by omega)) ?_)
  with_reducible refine Wp ?_
  simp only [go_sem, fN, seval, true_implies, false_implies, implies_true, dT, dF, nL, hb]
  (try with_reducible refine iC ?_)
  repeat' (first | (with_reducible first | refine W ?_ | refine Z0 ?_ | ((first | refine Wo fun K hK => ?_ | refine Wq ?_ | refine Wr ?_); (try simp only [go_sem, fN, seval, eT, iR]); (repeat refine Ai ?_); (try (refine hK _ ?_; clear hK K)))) | refine Cg _ (Pv s t hz) ?_)
  simp only [go_sem, fN, seval, AM, AS.result, AB, AD, AI]

set_option maxRecDepth 100000 in
theorem EJ (row : List ByteArray) (a b : Tm) : AQ Try.prog 9 [At row, aTm a, aTm b] (Ag true) := by
 by_cases q0 : (100 : Int) < row.length
 ·refine A7.ac fun C hC => ?_
  unfold Au
  repeat' with_reducible first | refine W ?_ | refine Z0 ?_ | ((first | refine Wo fun K hK => ?_ | refine Wp ?_ | refine Wq ?_ | refine Wr ?_); (try simp only [go_sem, fN, seval, eT, iR, q0, dT, dF, nL]); (repeat refine Ai ?_); (try (refine hK _ ?_; clear hK K)); try refine iC ?_)
  simp only [go_sem, fN, seval, AM, AS.result, AB, AD, AI]
 by_cases q1 : 3000 < a.size
 ·have hq : decide (3000 < a.size) = true := by simpa using q1
  refine A7.ac fun C hC => ?_
  unfold Au
  repeat' (first | (with_reducible first | refine W ?_ | refine Z0 ?_ | ((first | refine Wo fun K hK => ?_ | refine Wp ?_ | refine Wq ?_ | refine Wr ?_); (try simp only [go_sem, fN, seval, eT, iR, q0, hq, dT, dF, nL]); (repeat refine Ai ?_); (try (refine hK _ ?_; clear hK K)); try refine iC ?_)) | refine Cg _ (CC a) ?_)
  simp only [go_sem, fN, seval, AM, AS.result, AB, AD, AI]
 have hq1 : decide (3000 < a.size) = false := by simpa using q1
 by_cases q2 : 3000 < b.size
 ·have hq : decide (3000 < b.size) = true := by simpa using q2
  refine A7.ac fun C hC => ?_
  unfold Au
  repeat' (first | (with_reducible first | refine W ?_ | refine Z0 ?_ | ((first | refine Wo fun K hK => ?_ | refine Wp ?_ | refine Wq ?_ | refine Wr ?_); (try simp only [go_sem, fN, seval, eT, iR, q0, hq1, hq, dT, dF, nL]); (repeat refine Ai ?_); (try (refine hK _ ?_; clear hK K)); try refine iC ?_)) | refine Cg _ (CC a) ?_ | refine Cg _ (CC b) ?_)
  simp only [go_sem, fN, seval, AM, AS.result, AB, AD, AI]
 have hq2 : decide (3000 < b.size) = false := by simpa using q2
 have cP := Kk row a b
 have cW := Hz row a b
 have cR := MN row
 have cC := E4 row
 have cT := OR a b
 by_cases h1 : BU row = 0
 case neg =>
  have e : Bb row a b = BU row := if_neg h1
  have e1 : E_ row a b = false := by
   unfold E_
   rw [e, if_neg h1]
  have e2 : CR row a b = false := by
   unfold CR
   rw [e]
   simp [h1]
  rw [e, e1] at cP
  rw [e, e2] at cW
  generalize BU row = z at *
  refine A7.ac fun C hC => ?_
  unfold Au
  repeat' (first | (with_reducible first | refine W ?_ | refine Z0 ?_ | ((first | refine Wo fun K hK => ?_ | refine Wp ?_ | refine Wq ?_ | refine Wr ?_); (try simp only [go_sem, fN, seval, eT, iR, q0, hq1, hq2, h1, dT, dF, nL]); (repeat refine Ai ?_); (try (refine hK _ ?_; clear hK K)); try refine iC ?_)) | refine Cg _ (CC a) ?_ | refine Cg _ (CC b) ?_ | refine Cg _ (cR) ?_ | refine Cg _ (cP) ?_ | refine Cg _ (cW) ?_ | refine Cg _ (cC) ?_)
  simp only [go_sem, fN, seval, AM, AS.result, AB, AD, AI]
 case pos =>
 have e : Bb row a b = Cp a b := if_pos h1
 rw [h1] at cR cC
 by_cases h2 : Cp a b = 0
 case neg =>
  have e1 : E_ row a b = false := by
   unfold E_
   rw [e, if_neg h2]
  have e2 : CR row a b = false := by
   unfold CR
   rw [e]
   simp [h2]
  rw [e, e1] at cP
  rw [e, e2] at cW
  generalize Cp a b = z at *
  refine A7.ac fun C hC => ?_
  unfold Au
  repeat' (first | (with_reducible first | refine W ?_ | refine Z0 ?_ | ((first | refine Wo fun K hK => ?_ | refine Wp ?_ | refine Wq ?_ | refine Wr ?_); (try simp only [go_sem, fN, seval, eT, iR, q0, hq1, hq2, h2, dT, dF, nL]); (repeat refine Ai ?_); (try (refine hK _ ?_; clear hK K)); try refine iC ?_)) | refine Cg _ (CC a) ?_ | refine Cg _ (CC b) ?_ | refine Cg _ (cR) ?_ | refine Cg _ (cT) ?_ | refine Cg _ (cP) ?_ | refine Cg _ (cW) ?_ | refine Cg _ (cC) ?_)
  simp only [go_sem, fN, seval, AM, AS.result, AB, AD, AI]
 case pos =>
 have e0 : Bb row a b = 0 := e.trans h2
 have e1 : E_ row a b = paB row a b := if_pos e0
 have e2 : CR row a b = a.wt row b := by
  unfold CR
  rw [e0]
  simp
 rw [e0, e1] at cP
 rw [e0, e2] at cW
 rw [h2] at cT
 have sA := Fd a 60 (by decide) (by decide)
 have sB := Fd b 60 (by decide) (by decide)
 by_cases z1 : (60 : Int) < Az a.size 60
 ·refine A7.ac fun C hC => ?_
  unfold Au
  repeat' (first | (with_reducible first | refine W ?_ | refine Z0 ?_ | ((first | refine Wo fun K hK => ?_ | refine Wp ?_ | refine Wq ?_ | refine Wr ?_); (try simp only [go_sem, fN, seval, eT, iR, q0, hq1, hq2, z1, dT, dF, nL]); (repeat refine Ai ?_); (try (refine hK _ ?_; clear hK K)); try refine iC ?_)) | refine Cg _ (CC a) ?_ | refine Cg _ (CC b) ?_ | refine Cg _ (cR) ?_ | refine Cg _ (cT) ?_ | refine Cg _ (sA) ?_)
  simp only [go_sem, fN, seval, AM, AS.result, AB, AD, AI]
 by_cases z2 : (60 : Int) < Az b.size 60
 ·refine A7.ac fun C hC => ?_
  unfold Au
  repeat' (first | (with_reducible first | refine W ?_ | refine Z0 ?_ | ((first | refine Wo fun K hK => ?_ | refine Wp ?_ | refine Wq ?_ | refine Wr ?_); (try simp only [go_sem, fN, seval, eT, iR, q0, hq1, hq2, z1, z2, dT, dF, nL]); (repeat refine Ai ?_); (try (refine hK _ ?_; clear hK K)); try refine iC ?_)) | refine Cg _ (CC a) ?_ | refine Cg _ (CC b) ?_ | refine Cg _ (cR) ?_ | refine Cg _ (cT) ?_ | refine Cg _ (sA) ?_ | refine Cg _ (sB) ?_)
  simp only [go_sem, fN, seval, AM, AS.result, AB, AD, AI]
 have dP := PN row a b (by omega) (by omega)
 have dW := Ik row _ a b (Nat.lt_succ_self _) (by omega) (by omega)
 refine A7.ac fun C hC => ?_
 unfold Au
 repeat' (first | (with_reducible first | refine W ?_ | refine Z0 ?_ | ((first | refine Wo fun K hK => ?_ | refine Wp ?_ | refine Wq ?_ | refine Wr ?_); (try simp only [go_sem, fN, seval, eT, iR, q0, hq1, hq2, z1, z2, beq_self_eq_true, dT, dF, nL]); (repeat refine Ai ?_); (try (refine hK _ ?_; clear hK K)); try refine iC ?_)) | refine Cg _ (CC a) ?_ | refine Cg _ (CC b) ?_ | refine Cg _ (cR) ?_ | refine Cg _ (cT) ?_ | refine Cg _ (sA) ?_ | refine Cg _ (sB) ?_ | refine Cg _ (dP) ?_ | refine Cg _ (dW) ?_ | refine Cg _ (cP) ?_ | refine Cg _ (cW) ?_ | refine Cg _ (cC) ?_)
 simp only [go_sem, fN, seval, AM, AS.result, AB, AD, AI]
set_option maxRecDepth 100000 in
theorem KR (l : List Int) (m1 m2 m3 : Int) (hl : ∀ n ∈ l, inR .i64 n) (hm : l.length ≤ maxLen) (h1 : inR .i64 m1) (h2 : inR .i64 m2) (h3 : inR .i64 m3) : AQ Try.prog 3 [DZ l, AR m1, AR m2, AR m3] (Ag true) := by
 by_cases h256 : (256 : Int) < l.length
 ·refine Cu.ac fun C hC => ?_
  unfold Bw
  repeat' with_reducible first | refine W ?_ | refine Z0 ?_ | ((first | refine Wo fun K hK => ?_ | refine Wp ?_ | refine Wq ?_ | refine Wr ?_); (try simp only [go_sem, fN, seval, eT, iR, h256, dT, dF, nL]); (repeat refine Ai ?_); (try (refine hK _ ?_; clear hK K)); try refine iC ?_)
  simp only [go_sem, fN, seval, AM, AS.result, AB, AD, AI]
 obtain ⟨row, hrow, hrm⟩ := NQ m1 h1
 have r2 := BC m2 14 (by omega)
 have p2 := DB m2 14 h2 (by omega)
 obtain ⟨k2, e2⟩ : ∃ k : Nat, Bj m2 14 = k := ⟨(Bj m2 14).toNat, by omega⟩
 rw [e2] at p2 r2
 have r3 := BC m3 14 (by omega)
 have p3 := DB m3 14 h3 (by omega)
 obtain ⟨k3, e3⟩ : ∃ k : Nat, Bj m3 14 = k := ⟨(Bj m3 14).toNat, by omega⟩
 rw [e3] at p3 r3
 obtain ⟨a, ca, za, ka⟩ := HQ l hl hm 3 (by omega) k2 0 (by omega) (by omega)
 obtain ⟨b, cb, zb, kb⟩ := HQ l hl hm 3 (by omega) k3 40 (by omega) (by omega)
 obtain ⟨s, cs, os, _, zs⟩ := Jk l hl hm 2 (by omega) 80 4 (by omega) (by omega)
 have ca : AQ Try.prog 4 [DZ l, AR 0, AR k2, AR 3] (aTm a) := ca
 have cb : AQ Try.prog 4 [DZ l, AR 40, AR k3, AR 3] (aTm b) := cb
 have cs : AQ Try.prog 8 [DZ l, AR 80, AR 4, AR 2] (I1 s) := cs
 have on1 := Oz s a (by omega)
 have w1 := EJ row a b
 have w2 := EJ row b a
 generalize LP s a = r at on1
 obtain ⟨x, ok⟩ := r
 have w3 := EJ row a x
 cases ok with
 | true =>
  refine Cu.ac fun C hC => ?_
  unfold Bw
  repeat' (first | (with_reducible first | refine W ?_ | refine Z0 ?_ | ((first | refine Wo fun K hK => ?_ | refine Wp ?_ | refine Wq ?_ | refine Wr ?_); (try simp only [go_sem, fN, seval, eT, iR, h256, dT, dF, nL]); (repeat refine Ai ?_); (try (refine hK _ ?_; clear hK K)); try refine iC ?_)) | refine Cg _ (p2) ?_ | refine Cg _ (ca) ?_ | refine Cg _ (p3) ?_ | refine Cg _ (cb) ?_ | refine Cg _ (hrow) ?_ | refine Cg _ (cs) ?_ | refine Cg _ (on1) ?_ | refine Cg _ (w1) ?_ | refine Cg _ (w2) ?_ | refine Cg _ (w3) ?_)
  simp only [go_sem, fN, seval, AM, AS.result, AB, AD, AI]
 | false =>
  refine Cu.ac fun C hC => ?_
  unfold Bw
  repeat' (first | (with_reducible first | refine W ?_ | refine Z0 ?_ | ((first | refine Wo fun K hK => ?_ | refine Wp ?_ | refine Wq ?_ | refine Wr ?_); (try simp only [go_sem, fN, seval, eT, iR, h256, dT, dF, nL]); (repeat refine Ai ?_); (try (refine hK _ ?_; clear hK K)); try refine iC ?_)) | refine Cg _ (p2) ?_ | refine Cg _ (ca) ?_ | refine Cg _ (p3) ?_ | refine Cg _ (cb) ?_ | refine Cg _ (hrow) ?_ | refine Cg _ (cs) ?_ | refine Cg _ (on1) ?_ | refine Cg _ (w1) ?_ | refine Cg _ (w2) ?_)
  simp only [go_sem, fN, seval, AM, AS.result, AB, AD, AI]

open Go.ChangeShapes Go.WideShapes Go.ChangeAt
section
variable {H : Type} {enc : TypeId × Value → H} {P : Program}
theorem Ev (hl : laidOutB P = true) : ∀ {ts : List TypeId} {vs : List Value} {ds : List (DataW H)} {ps : List MemPlace} {W W' : World} {sp : Nat → Bool},
  (∀ t ∈ ts, P.readableRec t = true ∧ t < P.types.size) → DataW.TrodAll enc P W 0 (fun _ => true) true ts vs ds ps → (∀ p ∈ ps, W.sameAt W' p) → (∀ p ∈ ps, sp p.block = true) → DataW.TrodAll enc P W' 0 sp true ts vs ds ps
 | [], [], [], _, _, _, _, _, h, _, _ => h
 | _ :: _, _ :: _, _ :: _, _, _, _, _, hT, ⟨p, q, h1, h2, e⟩, hsame, hs => ⟨p, q, WideElems.Trod_stays hl (hT _ (List.mem_cons.2 (Or.inl rfl))).1 (hT _ (List.mem_cons.2 (Or.inl rfl))).2 h1 (fun x hx => hsame x (by rw [e]; exact List.mem_append_left _ hx)) (fun x hx => hs x (by rw [e]; exact List.mem_append_left _ hx)),
   Ev hl (fun t ht => hT t (List.mem_cons.2 (Or.inr ht))) h2 (fun x hx => hsame x (by rw [e]; exact List.mem_append_right _ hx)) (fun x hx => hs x (by rw [e]; exact List.mem_append_right _ hx)), e⟩
 | [], _ :: _, _, _, _, _, _, _, h, _, _ => h.elim
 | [], [], _ :: _, _, _, _, _, _, h, _, _ => h.elim
 | _ :: _, [], _, _, _, _, _, _, h, _, _ => h.elim
 | _ :: _, _ :: _, [], _, _, _, _, _, h, _, _ => h.elim
theorem Oe {f : Func} {s : ChangeSpec} {apart fresh handsOn : Bool} {W W' : World} {args : Array Value} {ds : List (DataW H)} {before : List MemPlace} {tb : TypeId}
  (hW : DataW.Whole enc P f.params.toList s.vars apart W args.toList ds [] before) (hv : s.vars = []) (hr : f.resultTypes = #[tb]) (htb : P.underlying tb = some .bool)
  (hres : (s.fn H (ds ++ [])).results = [.lit (.bool true)]) (hargs : (s.fn H (ds ++ [])).args = ds) (hvs : (s.fn H (ds ++ [])).vars = [])
  (hl : laidOutB P = true) (hT : (f.params.toList.all fun t => P.readableRec t && decide (t < P.types.size)) = true) (hb : Below W.heap.size W W') :
  s.post enc P f apart fresh handsOn false W args (.bool true) W' := by
 have hlt : ∀ p ∈ before, p.block < W.heap.size := fun p hp => hW.lt p hp
 have hT' : ∀ t ∈ f.params.toList, P.readableRec t = true ∧ t < P.types.size := fun t ht => by
  have := List.all_eq_true.1 hT t ht
  simpa using this
 obtain ⟨p, q, hA, hV, rfl, hz, hn⟩ := hW
 rw [hv] at hV
 obtain ⟨_, rfl⟩ := trodVars_none hV
 have hargs' : ∀ sp : Nat → Bool, (∀ x ∈ p, sp x.block = true) → DataW.TrodAll enc P W' 0 sp true f.params.toList args.toList ds p := fun sp hsp =>
  Ev hl hT' hA (fun x hx => hb.same (hlt x (by simpa using hx))) hsp
 have hres' : ∀ (b : Nat) (sp : Nat → Bool) (hd : Bool), DataW.TrodAll enc P W' b sp hd f.resultTypes.toList ((Value.bool true).resultList f.resultTypes.size) (s.fn H (ds ++ [])).results [] := fun b sp hd => by
  rw [hres, hr]
  exact trodAll_cons_mk (shut_bool htb true) trodAll_mk0
 refine ⟨ds, [], p ++ [], [], p, [], ⟨p, [], hA, by rw [hv]; exact rfl, rfl, hz, hn⟩, hres' _ _ _, by rw [hargs]; exact hargs' _ (fun x hx => by simpa using hlt x (by simpa using hx)), by rw [hv, hvs]; exact rfl,
  World.keptBut_mono (fun x hx => ⟨hx, Or.inr (by simpa using hx)⟩) (hb.frame (· ∈ p ++ [])), fun h => by cases h⟩
variable {W : World} {sp : Nat → Bool} {hd : Bool} {base : Nat}
def sto (W : World) : Sto := B8 W
theorem O0 (W : World) : Fit (sto W) W := fun _ _ h => h
theorem IK {W : World} {a : Addr} {v : Value} (h : W.cell? a = some v) : a.spot = none := by
 cases hs : a.spot with
 | none => rfl
 | some n =>
  unfold World.cell? at h
  split at h
  ·simp [hs] at h
  ·cases h
theorem KL {α : Type} {p : Nat → α → Prop} {n : Nat} (h : ∀ i, i < n → ∃ b, p i b) : ∃ xs : List α, xs.length = n ∧ ∀ i (h : i < xs.length), p i xs[i] := by
 induction n with
 | zero => exact ⟨[], rfl, fun i h => absurd h (by simp)⟩
 | succ m ih =>
  obtain ⟨xs, h1, h2⟩ := ih (fun i hi => h i (by omega))
  obtain ⟨b, h3⟩ := h m (by omega)
  refine ⟨xs ++ [b], by simp [h1], fun i hi => ?_⟩
  by_cases him : i < xs.length
  ·rw [List.getElem_append_left him]
   exact h2 i him
  ·have : i = xs.length := by simp at hi; omega
   subst this
   rw [show (xs ++ [b])[xs.length]'hi = b by simp, h1]
   exact h3
theorem JF {α : Type} {e0 : α → List SV} {t e : TypeId} {k : Nat} {fuel : Nat} {cs : List Value} {x : DataW H × List MemPlace} (ht : P.underlying t = some (.slice e)) (hc : P.cellsOf e = k) (hlen : ∀ a, (e0 a).length = k) (hk : 0 < k)
  (f : ∀ (n : Nat) (cs : List Value) (y : DataW H × List MemPlace), n < fuel → DataW.trod enc P W base sp hd n e cs = some y → ∃ a : α, AU (Af (sto W)) cs (e0 a))
  (h : DataW.trod enc P W base sp hd fuel t cs = some x) (hs : BD = true → k < 2 := by decide) : ∃ xs : List α, AU (Af (sto W)) cs [.list (xs.map e0)] := by
 rcases DataW.trod_slice ht h with ⟨rfl, _⟩ | ⟨a, len, cap, CT, rest, n, hfu, rfl, _, hb, hl, hm, hlen', hel, _, _⟩
 ·exact ⟨[], .cons KC .nil⟩
 ·have key : ∀ i, i < len → ∃ (b : α), ∃ (cs' : List Value), cs'.length = k ∧ (∀ j u, cs'[j]? = some u → W.cell? ((a.add (i * k)).add j) = some u) ∧ AU (Af (sto W)) cs' (e0 b) := fun i hi => by
   have h1 := hel i hi
   rw [List.getElem?_eq_getElem (by omega)] at h1
   obtain ⟨cs', h2, h3⟩ := Option.bind_eq_some_iff.1 h1
   obtain ⟨_, h4, h5⟩ := World.cells?_some h2
   obtain ⟨b, hb⟩ := f n cs' _ (by omega) h3
   rw [hc] at h4 h5
   refine ⟨b, cs', h4, fun j u hj => ?_, hb⟩
   rw [h5 j (by have := (List.getElem?_eq_some_iff.1 hj).1; omega)]
   exact hj
  obtain ⟨xs, hxl, hxs⟩ : ∃ xs : List α, xs.length = len ∧ ∀ i (h : i < xs.length), ∃ cs' : List Value, cs'.length = k ∧ (∀ j u, cs'[j]? = some u → W.cell? ((a.add (i * k)).add j) = some u) ∧ AU (Af (sto W)) cs' (e0 xs[i]) := KL key
  have cell : ∀ m y j z, (xs.map e0)[m]? = some y → y[j]? = some z → ∃ v, W.cell? ⟨a.block, a.off + m * k + j, none⟩ = some v ∧ Af (sto W) v z := fun m y j z hy hz => by
   rw [List.getElem?_map, Option.map_eq_some_iff] at hy
   obtain ⟨b, hb', rfl⟩ := hy
   obtain ⟨hm', hbe⟩ := List.getElem?_eq_some_iff.1 hb'
   obtain ⟨cs', c1, c2, c3⟩ := hxs m hm'
   rw [hbe] at c3
   obtain ⟨v, v1, v2⟩ := c3.get hz
   refine ⟨v, ?_, v2⟩
   have := c2 j v v1
   have hsp := IK this
   rw [← this]
   congr 1
   have h7 : ((a.add (m * k)).add j).block = a.block ∧ ((a.add (m * k)).add j).off = a.off + m * k + j := by
    unfold Addr.add
    split <;> split <;> simp_all
   generalize (a.add (m * k)).add j = q at *
   cases q
   simp_all
  refine ⟨xs, .cons (.list (b := a.block) (o := a.off) (w := k) (fun m j => (W.cell? ⟨a.block, a.off + m * k + j, none⟩).getD undef) (by simp [hxl]) hl hm (by simp) (fun h0 => ?_) (fun y hy => ?_) (fun q1 q2 _ => absurd (hs q1) (by omega)) (fun m y j z hy hz => ?_) (fun m y j z hy hz => ?_)) .nil⟩
  ·obtain ⟨cs', h1, h2, h3⟩ := hxs 0 (by omega)
   have h4 : W.cell? a = some (cs'[0]'(by omega)) := by
    have := h2 0 _ (List.getElem?_eq_getElem (by omega))
    simpa [Addr.add] using this
   have := IK h4
   cases a
   simp_all
  ·obtain ⟨b, _, rfl⟩ := List.mem_map.1 hy
   exact hlen b
  ·obtain ⟨v, v1, v2⟩ := cell m y j z hy hz
   show W.cell? _ = _
   rw [v1]; rfl
  ·obtain ⟨v, v1, v2⟩ := cell m y j z hy hz
   rw [v1]; exact v2
theorem KW {t : TypeId} (ht : P.underlying t = some (.int .i64)) (fuel : Nat) (cs : List Value) (x : DataW H × List MemPlace) (h : DataW.trod enc P W base sp hd fuel t cs = some x) : ∃ n : Int, AU (Af (sto W)) cs (Hi n) := by
 obtain ⟨n, rfl, _, hn⟩ := DataW.trod_int ht h
 exact ⟨n, .cons (.int (by rw [Ci]; simpa [Lit.wf, IntKind.min, IntKind.max, IntKind.signed, IntKind.bits] using hn)) .nil⟩
theorem Iw {t : TypeId} (ht : P.underlying t = some (.int .i64)) {r : Reach} {b0 : Nat} {v : Value} {d : DataW H} {p : List MemPlace} (hv : Value.okWide P W r b0 t v) (h : DataW.Trod enc P W base sp hd t v d p) : ∃ n : Int, AO (sto W) noS noH v (AR n) := by
 obtain ⟨n, rfl⟩ := okWide_int ht hv
 obtain ⟨fuel, hf⟩ := h
 obtain ⟨m, hm⟩ := KW ht fuel _ _ hf
 have : AU (Af (sto W)) [.int .i64 n] (Hi m) := hm
 cases this with
 | cons h1 h2 => exact ⟨m, .one (.st h1)⟩
theorem NW {α : Type} {e0 : α → List SV} {t e : TypeId} {k : Nat} (ht : P.underlying t = some (.slice e)) (hc : P.cellsOf e = k) (hlen : ∀ a, (e0 a).length = k) (hk : 0 < k) {r : Reach} {b0 : Nat} {v : Value} {d : DataW H} {p : List MemPlace} (hv : Value.okWide P W r b0 t v)
  (f : ∀ (n : Nat) (cs : List Value) (y : DataW H × List MemPlace), DataW.trod enc P W base sp hd n e cs = some y → ∃ a : α, AU (Af (sto W)) cs (e0 a)) (h : DataW.Trod enc P W base sp hd t v d p) (hs : BD = true → k < 2 := by decide) : ∃ xs : List α, AO (sto W) noS noH v (.one (.st (.list (xs.map e0)))) := by
 obtain ⟨a, len, cap, rfl⟩ := okWide_slice ht hv
 obtain ⟨fuel, hf⟩ := h
 obtain ⟨xs, hxs⟩ := JF ht hc hlen hk (fun n cs y _ hy => f n cs y hy) hf hs
 have : AU (Af (sto W)) [.slice a len cap] [.list (xs.map e0)] := hxs
 cases this with
 | cons h1 h2 => exact ⟨xs, .one (.st h1)⟩
end
theorem Lo {σ : Sto} (h : KP = [] := by rfl) : Bf σ := fun x hx => by simp [h] at hx
theorem Jj {P : Program} {f : FuncId} {xs : List AV} {b : Bool} (h : AQ P f xs (Ag b)) {σ : Sto} {w : World} {vs : List Value} (hg : Bf σ) (hf : Fit σ w) (hv : AU (AO σ noS noH) vs xs) :
  Calls P f vs.toArray w fun e w' => e = .returned (.bool b) ∧ Below w.heap.size w w' := (h σ w vs hg hf hv).mono fun e w' ⟨v, σ', he, hv, _, _, hb⟩ => by
 rw [B_ hv] at he
 exact ⟨he, hb⟩

section
variable {H : Type} {enc : TypeId × Value → H} {W : World} {sp : Nat → Bool} {hd : Bool} {base : Nat}
set_option maxRecDepth 100000 in
theorem N4 {r : Reach} {b0 : Nat} {v : Value} {d : DataW H} {p : List MemPlace} (hv : Value.okWide Try.prog W r b0 22 v) (h : DataW.Trod enc Try.prog W base sp hd 22 v d p) : ∃ l : List Int, AO (sto W) noS noH v (DZ l) :=
 NW (k := 1) Try.underlying22 (by kernel_rfl) (fun _ => rfl) (by decide) hv (KW Try.underlying3) h
end

end Go.Proofs.Ytdlbfdcklpleaaa
namespace Go.Proofs.Ytdlbfdcklpleaaa.orderMade
open Go Go.RowKit Go.ChangeShapes Go.WideShapes Go.ChangeAt
set_option linter.unusedVariables false
theorem own : ownKnob Try.prog.godebug = none := by kernel_rfl
theorem P0 : laidOutB Try.prog = true := by kernel_rfl
set_option maxRecDepth 100000 in
theorem On (H : Type) (enc : TypeId × Value → H) (W : World) (base : Nat) (args : Array Value) (ds gs : List (DataW H)) (before : List MemPlace)
  (hval : ∀ (j : Nat) t v, Try.f3.params[j]? = some t → args[j]? = some v → Value.okWide Try.prog W .any base t v)
  (hW : DataW.Whole enc Try.prog Try.f3.params.toList Rows.orderMadeSpec.vars false W args.toList ds gs before) :
  Calls Try.prog 3 args W fun e W' => ∃ v, e = .returned v ∧ Rows.orderMadeSpec.post enc Try.prog Try.f3 false true false false W args v W' := by
 obtain ⟨p, q, hA0, hV, rfl, hfz, hnd⟩ := id hW
 obtain ⟨rfl, rfl⟩ := trodVars_none hV
 have hA : DataW.TrodAll enc Try.prog W 0 (fun _ => true) true Try.f3.params.toList args.toList ds p := hA0
 rw [Try.params3] at hA hval
 obtain ⟨v0, v1, v2, v3, d0, d1, d2, d3, p0, p1, p2, p3, hargs, rfl, rfl, h0, h1, h2, h3⟩ := trodAll_four hA
 obtain rfl : args = #[v0, v1, v2, v3] := by cases args; simp_all
 obtain ⟨l, r0⟩ := N4 (hval 0 22 v0 rfl rfl) h0
 obtain ⟨m1, r1⟩ := Iw Try.underlying3 (hval 1 3 v1 rfl rfl) h1
 obtain ⟨m2, r2⟩ := Iw Try.underlying3 (hval 2 3 v2 rfl rfl) h2
 obtain ⟨m3, r3⟩ := Iw Try.underlying3 (hval 3 3 v3 rfl rfl) h3
 have k0 := LZ r0.known
 refine (Jj (KR l m1 m2 m3 k0.2 k0.1 r1.known r2.known r3.known) Lo (O0 W) (vs := [v0, v1, v2, v3]) (.cons r0 (.cons r1 (.cons r2 (.cons r3 .nil))))).mono fun e W' ⟨he, hb⟩ => ⟨_, he, ?_⟩
 exact Oe hW rfl rfl Try.underlying4 rfl rfl rfl P0 (by kernel_rfl) hb
set_option maxRecDepth 100000 in
theorem Pe (os : Os) (started : os.Started) (H : Type) (enc : TypeId × Value → H) :
  ReturnsInHanded {} Try.checked os 3 .any (Rows.orderMadeSpec.pre6 enc Try.prog Try.f3 Rows.orderMadeRow.domain false) (Rows.orderMadeSpec.post enc Try.prog Try.f3 false true false false) := by
 refine returnsInHanded_of_change (C := Try.checked) own started (by kernel_rfl) Try.func3
  (ChangeSpec.witness6 (enc := enc) (C := Try.checked) false ⟨#[], #[.slice none 0 0, .int .i64 0, .int .i64 0, .int .i64 0], []⟩ 8 (by kernel_rfl) (by kernel_rfl) (by kernel_rfl) (by kernel_rfl)) ?_
 intro W base args ds gs before hval hW _ _
 exact On H enc W base args ds gs before hval hW
theorem proved : Rows.OrderMadeSaid :=
 OpenClaim.holds_of_wide 3 Try.f3 rfl rfl rfl rfl rfl rfl rfl ⟨rfl, rfl, rfl, rfl, rfl⟩ rfl rfl rfl rfl rfl (by kernel_rfl) Try.func3 (by kernel_rfl)
  (of_decide_eq_true (by kernel_rfl)) (by unfold Func.isWrapper; first | (rw [if_pos (by decide +kernel)]; kernel_rfl) | (rw [if_neg (by decide +kernel)]; exact ⟨rfl, rfl⟩))
  (fun os started H enc _ => Pe os started H enc)

end Go.Proofs.Ytdlbfdcklpleaaa.orderMade
