/-
  Part 7 of the texts. Conditions: none.
-/
import Derived.Test.YtdlbfdcklpleaaaOMd6
namespace Go.Proofs.Ytdlbfdcklpleaaa
open Go Go.RowKit
set_option linter.unusedVariables false
set_option linter.unusedSimpArgs false
set_option maxHeartbeats 4000000
def C2 (b : Bool) : List SV := [.bool b]
abbrev aIs (l : List Int) : AV := .one (.st (.list (l.map Hi)))
structure Mat (row : List ByteArray) (x y : List Tm) (i k : Nat) (cs : List AC) (B : Nat) (L : List Bool) : Prop where
 len : cs.length = x.length
 own : cs[i]? = some (.row B y.length)
 rowL : L.length = y.length
 done : ∀ j a, i < j → x[j]? = some a → cs[j]? = some (.st (.list ((y.map (paB row a)).map C2)))
 part : ∀ k' b a, k < k' → x[i]? = some a → y[k']? = some b → L[k']? = some (paB row a b)
abbrev M6 (t : Tm) : AJ := .box 25 [.st (.str t.name), .st (.list (t.args.map BI))]
def OQ (row : List ByteArray) (x y : List Tm) (i k : Nat) (a b : Tm) (A : Nat) (S : AA) (s : AS) : Prop :=
 s.env 0 = At row ∧ s.env 1 = DD x ∧ s.env 2 = DD y ∧ s.env 3 = aIs (B7 x) ∧ s.env 4 = aIs (B7 y) ∧ s.env 5 = .one (.row A x.length) ∧ s.env 6 = AR i ∧ s.env 7 = AR k ∧ s.env 17 = .one (.ptr 17 1 0 0) ∧ s.env 18 = .one (.ptr 18 1 0 0) ∧ s.S 17 = some (M6 a) ∧ s.S 18 = some (M6 b) ∧ ∀ j, 1000 ≤ j → s.S j = S j
theorem LC (row : List ByteArray) (t u : Tm) (i k : Nat) (a b : Tm) (ha : t.knots[i]? = some a) (hb : u.knots[k]? = some b) (ht : t.size ≤ 1000000) (hu : u.size ≤ 1000000) (A B : Nat) (cs : List AC) (L : List Bool) (S : AA) (hA : 1000 ≤ A) (hB : 1000 ≤ B) (sA : S A = some (.crow 59 cs)) (sB : S B = some (.mrow 4 1 (L.map C2))) (M : Mat row t.knots u.knots i k cs B L) :
  BE Try.prog 31 [At row, DD t.knots, DD u.knots, aIs (B7 t.knots), aIs (B7 u.knots), .one (.row A t.knots.length), AR i, AR k] S (Ag (paB row a b)) S := by
 refine H4.acS fun hS C hC => ?_
 unfold Et
 have n17 : S 17 = none := Bq hS (by omega)
 have n18 : S 18 = none := Bq hS (by omega)
 have hxl := Tm.knots_length t
 have hyl := Tm.knots_length u
 have hea := CK ha
 have heb := CK hb
 have hkx := Gn ha
 have hky := Gn hb
 have hLl : (L.map C2).length = u.knots.length := by rw [List.length_map, M.rowL]
 have hcl := M.len
 have hil : i < t.knots.length := (List.getElem?_eq_some_iff.1 ha).1
 have hkl : k < u.knots.length := (List.getElem?_eq_some_iff.1 hb).1
 cases hv : AW a.name with
 | true =>
  have hr : paB row a b = false := L4 hv
  repeat' (first | (with_reducible first | refine W ?_ | refine Z0 ?_ | ((first | refine Wo fun K hK => ?_ | refine Wp ?_ | refine Wq ?_ | refine Wr ?_); (try simp only [go_sem, fN, seval, eT, iR, n17, n18, ha, hb, hv, dT, dF, nL]); (repeat refine Ai ?_); (try (refine hK _ ?_; clear hK K)); try refine iC ?_)) | refine Cg _ (BB a.name) ?_)
  refine Ak (Ag (paB row a b)) hS trivial ?_ ?_ fun j hj => ?_
  ·rw [hr]
   rfl
  ·rfl
  ·simp [AS.set, AP, show ¬ j = 17 by omega, show ¬ j = 18 by omega]
 | false =>
 repeat' (first | (with_reducible first | refine W ?_ | refine Z0 ?_ | ((first | refine Wo fun K hK => ?_ | refine Wp ?_ | refine Wq ?_ | refine Wr ?_); (try simp only [go_sem, fN, seval, eT, iR, n17, n18, ha, hb, hv, dT, dF, nL]); (repeat refine Ai ?_); (try (refine hK _ ?_; clear hK K)); try refine iC ?_)) | refine Cg _ (BB a.name) ?_)
 refine IWP.loop (fun q s => ∃ m, m ≤ a.args.length ∧ q = a.args.length - m ∧ OQ row t.knots u.knots i k a b A S s ∧ s.env 19 = AR (BH a i m) ∧ ∀ c ∈ a.args.take m, c ≠ b ∧ paB row c b = false) a.args.length
  ⟨0, Nat.zero_le _, rfl, ⟨rfl, rfl, rfl, rfl, rfl, rfl, rfl, rfl, rfl, rfl, ?_, ?_, fun j hj => ?_⟩, ?_, by simp⟩ ?_
 ·simp only [go_sem, fN, seval, eT, iR]
 ·simp only [go_sem, fN, seval, eT, iR]
 ·simp [AS.set, AP, show ¬ j = 17 by omega, show ¬ j = 18 by omega]
 ·simp only [go_sem, fN, seval, eT, iR]
  rw [Dg]
  simp
 rintro q ⟨env, St⟩ ⟨m, hm, rfl, ⟨f0, f1, f2, f3, f4, f5, f6, f7, f17, f18, t17, t18, hSt⟩, f19, hno⟩
 simp only at f0 f1 f2 f3 f4 f5 f6 f7 f17 f18 t17 t18 hSt f19
 have tA : St A = some (.crow 59 cs) := (hSt A hA).trans sA
 have tB : St B = some (.mrow 4 1 (L.map C2)) := (hSt B hB).trans sB
 by_cases hml : m < a.args.length
 ·obtain ⟨c, hc⟩ : ∃ c, a.args[m]? = some c := ⟨_, List.getElem?_eq_getElem hml⟩
  have hcm := List.mem_of_getElem? hc
  have hkid := FG ha hc
  have hj1 := HP a i m
  have hj2 := JL (x := a) (i := i) hml
  have hjl : BH a i m < t.knots.length := (List.getElem?_eq_some_iff.1 hkid).1
  have hlt : ((BH a i m : Nat) : Int) < ((i + a.size : Nat) : Int) := by omega
  have hrow := M.done _ c hj1 hkid
  have hec := CK hkid
  rw [← Cy i hc] at hec
  have hbq := I3 c b
  have htk : a.args.take (m + 1) = a.args.take m ++ [c] := Aa hc
  cases hq : c.beq b with
  | true =>
   rw [hq] at hbq
   have hr : paB row a b = true := GY hv hcm (.inl ((Tm.beq_iff c b).1 hq))
   repeat' (first | (with_reducible first | refine W ?_ | refine Z0 ?_ | ((first | refine Wo fun K hK => ?_ | refine Wp ?_ | refine Wq ?_ | refine Wr ?_); (try simp only [go_sem, fN, seval, eT, iR, f0, f1, f2, f3, f4, f5, f6, f7, f17, f18, t17, t18, f19, hea, hlt, hkid, dT, dF, nL]); (repeat refine Ai ?_); (try (refine hK _ ?_; clear hK K)); try refine iC ?_)) | refine Cg _ (hbq) ?_)
   refine Ak (Ag (paB row a b)) hS trivial ?_ ?_ fun j hj => ?_
   ·rw [hr]
    rfl
   ·rfl
   ·exact hSt j hj
  | false =>
   rw [hq] at hbq
   have hne : c ≠ b := fun e => by rw [(Tm.beq_iff c b).2 e] at hq; cases hq
   cases hcp : paB row c b with
   | true =>
    have hr : paB row a b = true := GY hv hcm (.inr hcp)
    repeat' (first | (with_reducible first | refine W ?_ | refine Z0 ?_ | ((first | refine Wo fun K hK => ?_ | refine Wp ?_ | refine Wq ?_ | refine Wr ?_); (try simp only [go_sem, fN, seval, eT, iR, f0, f1, f2, f3, f4, f5, f6, f7, f17, f18, t17, t18, f19, hea, hlt, hkid, tA, hcl, hjl, hrow, hb, C2, hcp, dT, dF, nL]); (repeat refine Ai ?_); (try (refine hK _ ?_; clear hK K)); try refine iC ?_)) | refine Cg _ (hbq) ?_)
    refine Ak (Ag (paB row a b)) hS trivial ?_ ?_ fun j hj => ?_
    ·rw [hr]
     rfl
    ·rfl
    ·exact hSt j hj
   | false =>
    repeat' (first | (with_reducible first | refine W ?_ | refine Z0 ?_ | ((first | refine Wo fun K hK => ?_ | refine Wp ?_ | refine Wq ?_ | refine Wr ?_); (try simp only [go_sem, fN, seval, eT, iR, f0, f1, f2, f3, f4, f5, f6, f7, f17, f18, t17, t18, f19, hea, hlt, hkid, tA, hcl, hjl, hrow, hb, C2, hcp, hec, dT, dF, nL]); (repeat refine Ai ?_); (try (refine hK _ ?_; clear hK K)); try refine iC ?_)) | refine Cg _ (hbq) ?_)
    refine AH ⟨a.args.length - (m + 1), by omega, m + 1, by omega, rfl, ?_, ?_, ?_⟩
    ·exact ⟨f0, f1, f2, f3, f4, f5, f6, f7, f17, f18, t17, t18, hSt⟩
    ·rfl
    ·intro c' hc'
     rw [htk, List.mem_append, List.mem_singleton] at hc'
     rcases hc' with hc' | rfl
     ·exact hno c' hc'
     ·exact ⟨hne, hcp⟩
 ·have hme : m = a.args.length := by omega
  rw [hme, DV] at f19
  rw [hme, List.take_length] at hno
  have hlt : ¬ ((i + a.size : Nat) : Int) < ((i + a.size : Nat) : Int) := Int.lt_irrefl _
  have hGba := Dm row b a
  have hGab := Dm row a b
  cases hvb : AW b.name with
  | true =>
   have hr : paB row a b = false := DM hv hno (.inl hvb)
   repeat' (first | (with_reducible first | refine W ?_ | refine Z0 ?_ | ((first | refine Wo fun K hK => ?_ | refine Wp ?_ | refine Wq ?_ | refine Wr ?_); (try simp only [go_sem, fN, seval, eT, iR, f0, f1, f2, f3, f4, f5, f6, f7, f17, f18, t17, t18, f19, hea, hlt, hvb, dT, dF, nL]); (repeat refine Ai ?_); (try (refine hK _ ?_; clear hK K)); try refine iC ?_)) | refine Cg _ (BB b.name) ?_)
   refine Ak (Ag (paB row a b)) hS trivial ?_ ?_ fun j hj => ?_
   ·rw [hr]
    rfl
   ·rfl
   ·exact hSt j hj
  | false =>
  by_cases hs1 : 0 < Aw row b a
  ·have hr : paB row a b = false := DM hv hno (.inr (.inl (FH.2 hs1)))
   have hd : decide (0 < Aw row b a) = true := by simpa using hs1
   rw [hd] at hGba
   repeat' (first | (with_reducible first | refine W ?_ | refine Z0 ?_ | ((first | refine Wo fun K hK => ?_ | refine Wp ?_ | refine Wq ?_ | refine Wr ?_); (try simp only [go_sem, fN, seval, eT, iR, f0, f1, f2, f3, f4, f5, f6, f7, f17, f18, t17, t18, f19, hea, hlt, hvb, dT, dF, nL]); (repeat refine Ai ?_); (try (refine hK _ ?_; clear hK K)); try refine iC ?_)) | refine Cg _ (BB b.name) ?_ | refine Cg _ (hGba) ?_)
   refine Ak (Ag (paB row a b)) hS trivial ?_ ?_ fun j hj => ?_
   ·rw [hr]
    rfl
   ·rfl
   ·exact hSt j hj
  have hd : decide (0 < Aw row b a) = false := by simpa using hs1
  rw [hd] at hGba
  repeat' (first | (with_reducible first | refine W ?_ | refine Z0 ?_ | ((first | refine Wo fun K hK => ?_ | refine Wp ?_ | refine Wq ?_ | refine Wr ?_); (try simp only [go_sem, fN, seval, eT, iR, f0, f1, f2, f3, f4, f5, f6, f7, f17, f18, t17, t18, f19, hea, hlt, hvb, dT, dF, nL]); (repeat refine Ai ?_); (try (refine hK _ ?_; clear hK K)); try refine iC ?_)) | refine Cg _ (BB b.name) ?_ | refine Cg _ (hGba) ?_)
  refine IWP.loop (fun q s => ∃ m, m ≤ b.args.length ∧ q = b.args.length - m ∧ OQ row t.knots u.knots i k a b A S s ∧ s.env 20 = AR (BH b k m) ∧ ∀ y ∈ b.args.take m, paB row a y = true) b.args.length
   ⟨0, Nat.zero_le _, rfl, ⟨f0, f1, f2, f3, f4, f5, f6, f7, f17, f18, t17, t18, hSt⟩, ?_, by simp⟩ ?_
  ·simp only [go_sem, fN, seval, eT, iR]
   rw [Dg]
   simp
  rintro q ⟨env2, S2⟩ ⟨m2, hm2, rfl, ⟨g0, g1, g2, g3, g4, g5, g6, g7, g17, g18, u17, u18, hSu⟩, g20, hall⟩
  simp only at g0 g1 g2 g3 g4 g5 g6 g7 g17 g18 u17 u18 hSu g20
  have uA : S2 A = some (.crow 59 cs) := (hSu A hA).trans sA
  have uB : S2 B = some (.mrow 4 1 (L.map C2)) := (hSu B hB).trans sB
  by_cases hml2 : m2 < b.args.length
  ·obtain ⟨d, hdm⟩ : ∃ d, b.args[m2]? = some d := ⟨_, List.getElem?_eq_getElem hml2⟩
   have hdd := List.mem_of_getElem? hdm
   have hkid := FG hb hdm
   have hj1 := HP b k m2
   have hj2 := JL (x := b) (i := k) hml2
   have hjl : BH b k m2 < u.knots.length := (List.getElem?_eq_some_iff.1 hkid).1
   have hltb : ((BH b k m2 : Nat) : Int) < ((k + b.size : Nat) : Int) := by omega
   have hown := M.own
   have hpart := M.part _ d a hj1 ha hkid
   have hec := CK hkid
   rw [← Cy k hdm] at hec
   have htk : b.args.take (m2 + 1) = b.args.take m2 ++ [d] := Aa hdm
   cases hap : paB row a d with
   | false =>
    rw [hap] at hpart
    have hr : paB row a b = false := DM hv hno (.inr (.inr ⟨d, hdd, hap⟩))
    repeat' with_reducible first | refine W ?_ | refine Z0 ?_ | ((first | refine Wo fun K hK => ?_ | refine Wp ?_ | refine Wq ?_ | refine Wr ?_); (try simp only [go_sem, fN, seval, eT, iR, g0, g1, g2, g3, g4, g5, g6, g7, g17, g18, u17, u18, g20, heb, hltb, uA, uB, hcl, hil, hown, hLl, hjl, hpart, C2, dT, dF, nL]); (repeat refine Ai ?_); (try (refine hK _ ?_; clear hK K)); try refine iC ?_)
    refine Ak (Ag (paB row a b)) hS trivial ?_ ?_ fun j hj => ?_
    ·rw [hr]
     rfl
    ·rfl
    ·exact hSu j hj
   | true =>
    rw [hap] at hpart
    repeat' with_reducible first | refine W ?_ | refine Z0 ?_ | ((first | refine Wo fun K hK => ?_ | refine Wp ?_ | refine Wq ?_ | refine Wr ?_); (try simp only [go_sem, fN, seval, eT, iR, g0, g1, g2, g3, g4, g5, g6, g7, g17, g18, u17, u18, g20, heb, hltb, uA, uB, hcl, hil, hown, hLl, hjl, hpart, C2, hec, dT, dF, nL]); (repeat refine Ai ?_); (try (refine hK _ ?_; clear hK K)); try refine iC ?_)
    refine AH ⟨b.args.length - (m2 + 1), by omega, m2 + 1, by omega, rfl, ⟨g0, g1, g2, g3, g4, g5, g6, g7, g17, g18, u17, u18, hSu⟩, rfl, ?_⟩
    intro y hy
    rw [htk, List.mem_append, List.mem_singleton] at hy
    rcases hy with hy | rfl
    ·exact hall y hy
    ·exact hap
  have hme2 : m2 = b.args.length := by omega
  rw [hme2, DV] at g20
  rw [hme2, List.take_length] at hall
  have hltb : ¬ ((k + b.size : Nat) : Int) < ((k + b.size : Nat) : Int) := Int.lt_irrefl _
  by_cases hs2 : 0 < Aw row a b
  ·have hr : paB row a b = true := Nt hv hvb hs2 hall
   have hd2 : decide (0 < Aw row a b) = true := by simpa using hs2
   rw [hd2] at hGab
   repeat' (first | (with_reducible first | refine W ?_ | refine Z0 ?_ | ((first | refine Wo fun K hK => ?_ | refine Wp ?_ | refine Wq ?_ | refine Wr ?_); (try simp only [go_sem, fN, seval, eT, iR, g0, g1, g2, g3, g4, g5, g6, g7, g17, g18, u17, u18, g20, heb, hltb, dT, dF, nL]); (repeat refine Ai ?_); (try (refine hK _ ?_; clear hK K)); try refine iC ?_)) | refine Cg _ (hGab) ?_)
   refine Ak (Ag (paB row a b)) hS trivial ?_ ?_ fun j hj => ?_
   ·rw [hr]
    rfl
   ·rfl
   ·exact hSu j hj
  have hd2 : decide (0 < Aw row a b) = false := by simpa using hs2
  rw [hd2] at hGab
  have hs0 : Aw row a b = 0 := by
   have h1 : ¬ Aw row a b < 0 := fun h => hs1 (FH.1 h)
   omega
  have hle := (CI.1 hs0).2
  repeat' (first | (with_reducible first | refine W ?_ | refine Z0 ?_ | ((first | refine Wo fun K hK => ?_ | refine Wp ?_ | refine Wq ?_ | refine Wr ?_); (try simp only [go_sem, fN, seval, eT, iR, g0, g1, g2, g3, g4, g5, g6, g7, g17, g18, u17, u18, g20, heb, hltb, dT, dF, nL]); (repeat refine Ai ?_); (try (refine hK _ ?_; clear hK K)); try refine iC ?_)) | refine Cg _ (hGab) ?_)
  refine IWP.loop (fun q s => ∃ m, m ≤ a.args.length ∧ q = a.args.length - m ∧ OQ row t.knots u.knots i k a b A S s ∧ s.env 22 = AR (BH a i m) ∧ s.env 21 = AR (BH b k m) ∧ a.args.take m = b.args.take m) a.args.length
   ⟨0, Nat.zero_le _, rfl, ⟨g0, g1, g2, g3, g4, g5, g6, g7, g17, g18, u17, u18, hSu⟩, ?_, ?_, by simp⟩ ?_
  ·simp only [go_sem, fN, seval, eT, iR]
   rw [Dg]
   simp
  ·simp only [go_sem, fN, seval, eT, iR]
   rw [Dg]
   simp
  rintro q ⟨env3, S3⟩ ⟨m3, hm3, rfl, ⟨h0, h1, h2, h3, h4, h5, h6, h7, h17, h18, w17, w18, hSw⟩, h22, h21, hpre⟩
  simp only at h0 h1 h2 h3 h4 h5 h6 h7 h17 h18 w17 w18 hSw h22 h21
  have wA : S3 A = some (.crow 59 cs) := (hSw A hA).trans sA
  by_cases hml3 : m3 < a.args.length
  ·obtain ⟨c, hc⟩ : ∃ c, a.args[m3]? = some c := ⟨_, List.getElem?_eq_getElem hml3⟩
   obtain ⟨d, hdm⟩ : ∃ d, b.args[m3]? = some d := ⟨_, List.getElem?_eq_getElem (by omega)⟩
   have hkc := FG ha hc
   have hkd := FG hb hdm
   have hj1 := HP a i m3
   have hj2 := JL (x := a) (i := i) hml3
   have hjl : BH a i m3 < t.knots.length := (List.getElem?_eq_some_iff.1 hkc).1
   have hjd : BH b k m3 < u.knots.length := (List.getElem?_eq_some_iff.1 hkd).1
   have hlt3 : ((BH a i m3 : Nat) : Int) < ((i + a.size : Nat) : Int) := by omega
   have hrow := M.done _ c hj1 hkc
   have hec := CK hkc
   rw [← Cy i hc] at hec
   have hed := CK hkd
   rw [← Cy k hdm] at hed
   have hbq := I3 c d
   have htk1 : a.args.take (m3 + 1) = a.args.take m3 ++ [c] := Aa hc
   have htk2 : b.args.take (m3 + 1) = b.args.take m3 ++ [d] := Aa hdm
   cases hq : c.beq d with
   | false =>
    rw [hq] at hbq
    have hne : c ≠ d := fun e => by rw [(Tm.beq_iff c d).2 e] at hq; cases hq
    have hr : paB row a b = paB row c d := IH hv hvb hno hs0 hall hpre hc hdm hne
    repeat' (first | (with_reducible first | refine W ?_ | refine Z0 ?_ | ((first | refine Wo fun K hK => ?_ | refine Wp ?_ | refine Wq ?_ | refine Wr ?_); (try simp only [go_sem, fN, seval, eT, iR, h0, h1, h2, h3, h4, h5, h6, h7, h17, h18, w17, w18, h22, h21, hea, hlt3, hkc, hkd, wA, hcl, hjl, hrow, C2, dT, dF, nL]); (repeat refine Ai ?_); (try (refine hK _ ?_; clear hK K)); try refine iC ?_)) | refine Cg _ (hbq) ?_)
    refine Ak (Ag (paB row a b)) hS trivial ?_ ?_ fun j hj => ?_
    ·rw [hr]
     rfl
    ·rfl
    ·exact hSw j hj
   | true =>
    rw [hq] at hbq
    have he : c = d := (Tm.beq_iff c d).1 hq
    repeat' (first | (with_reducible first | refine W ?_ | refine Z0 ?_ | ((first | refine Wo fun K hK => ?_ | refine Wp ?_ | refine Wq ?_ | refine Wr ?_); (try simp only [go_sem, fN, seval, eT, iR, h0, h1, h2, h3, h4, h5, h6, h7, h17, h18, w17, w18, h22, h21, hea, hlt3, hkc, hkd, hec, hed, dT, dF, nL]); (repeat refine Ai ?_); (try (refine hK _ ?_; clear hK K)); try refine iC ?_)) | refine Cg _ (hbq) ?_)
    refine AH ⟨a.args.length - (m3 + 1), by omega, m3 + 1, by omega, rfl, ⟨h0, h1, h2, h3, h4, h5, h6, h7, h17, h18, w17, w18, hSw⟩, rfl, rfl, ?_⟩
    rw [htk1, htk2, hpre, he]
  ·have hme3 : m3 = a.args.length := by omega
   rw [hme3, DV] at h22
   rw [hme3, List.take_length, hle, List.take_length] at hpre
   have hr : paB row a b = false := Jb hv hno hs0 hpre
   have hlt3 : ¬ ((i + a.size : Nat) : Int) < ((i + a.size : Nat) : Int) := Int.lt_irrefl _
   repeat' with_reducible first | refine W ?_ | refine Z0 ?_ | ((first | refine Wo fun K hK => ?_ | refine Wp ?_ | refine Wq ?_ | refine Wr ?_); (try simp only [go_sem, fN, seval, eT, iR, h0, h1, h2, h3, h4, h5, h6, h7, h17, h18, w17, w18, h22, hea, hlt3, dT, dF, nL]); (repeat refine Ai ?_); (try (refine hK _ ?_; clear hK K)); try refine iC ?_)
   refine Ak (Ag (paB row a b)) hS trivial ?_ ?_ fun j hj => ?_
   ·rw [hr]
    rfl
   ·rfl
   ·exact hSw j hj

noncomputable def OH (row : List ByteArray) (y : List Tm) (a : Tm) : SV := .list ((y.map (paB row a)).map C2)
noncomputable def E3 (row : List ByteArray) (x y : List Tm) (n : Nat) : List SV := (List.replicate n (SV.list [])) ++ (x.drop n).map (OH row y)
theorem FQ (row : List ByteArray) (x y : List Tm) (n : Nat) (h : n ≤ x.length) : (E3 row x y n).length = x.length := by
 simp [E3]
 omega
theorem N1 (row : List ByteArray) (x y : List Tm) : E3 row x y x.length = List.replicate x.length (SV.list []) := by simp [E3]
theorem Kh {row : List ByteArray} {x y : List Tm} {n j : Nat} {a : Tm} (h : n ≤ j) (ha : x[j]? = some a) : (E3 row x y n)[j]? = some (OH row y a) := by
 have hl := (List.getElem?_eq_some_iff.1 ha).1
 unfold E3
 rw [List.getElem?_append_right (by simpa using h), List.length_replicate, List.getElem?_map, List.getElem?_drop, show n + (j - n) = j by omega, ha]
 rfl
theorem Mp {row : List ByteArray} {x y : List Tm} {n : Nat} {a : Tm} (ha : x[n]? = some a) : (E3 row x y (n + 1)).set n (OH row y a) = E3 row x y n := by
 have hl := (List.getElem?_eq_some_iff.1 ha).1
 unfold E3
 rw [List.set_append_left _ _ (by simp), List.replicate_succ', List.set_append_right _ _ (by simp), List.length_replicate, Nat.sub_self, BT ha, List.map_cons]
 simp
noncomputable def Ch (row : List ByteArray) (y : List Tm) (a : Tm) (k : Nat) : List Bool := List.replicate k false ++ (y.drop k).map (paB row a)
theorem Ku (row : List ByteArray) (y : List Tm) (a : Tm) (k : Nat) (h : k ≤ y.length) : (Ch row y a k).length = y.length := by
 simp [Ch]
 omega
theorem N0 (row : List ByteArray) (y : List Tm) (a : Tm) : Ch row y a y.length = List.replicate y.length false := by simp [Ch]
theorem NP (row : List ByteArray) (y : List Tm) (a : Tm) : Ch row y a 0 = y.map (paB row a) := by simp [Ch]
theorem OB {row : List ByteArray} {y : List Tm} {a b : Tm} {k j : Nat} (h : k ≤ j) (hb : y[j]? = some b) : (Ch row y a k)[j]? = some (paB row a b) := by
 have hl := (List.getElem?_eq_some_iff.1 hb).1
 unfold Ch
 rw [List.getElem?_append_right (by simpa using h), List.length_replicate, List.getElem?_map, List.getElem?_drop, show k + (j - k) = j by omega, hb]
 rfl
theorem NO {row : List ByteArray} {y : List Tm} {a b : Tm} {k : Nat} (hb : y[k]? = some b) : (Ch row y a (k + 1)).set k (paB row a b) = Ch row y a k := by
 have hl := (List.getElem?_eq_some_iff.1 hb).1
 unfold Ch
 rw [List.set_append_left _ _ (by simp), List.replicate_succ', List.set_append_right _ _ (by simp), List.length_replicate, Nat.sub_self, BT hb, List.map_cons]
 simp
noncomputable def Be (row : List ByteArray) (x y : List Tm) (i : Nat) (c : AC) : List AC := ((E3 row x y (i + 1)).map AC.st).set i c
theorem Gs (row : List ByteArray) (x y : List Tm) (i : Nat) (c : AC) (h : i < x.length) : (Be row x y i c).length = x.length := by
 unfold Be
 rw [List.length_set, List.length_map, FQ _ _ _ _ (by omega)]
theorem PH {row : List ByteArray} {x y : List Tm} {i k B : Nat} {a : Tm} (hi : x[i]? = some a) (hk : k < y.length) : Mat row x y i k (Be row x y i (.row B y.length)) B (Ch row y a (k + 1)) := by
 have hil := (List.getElem?_eq_some_iff.1 hi).1
 refine ⟨Gs _ _ _ _ _ hil, ?_, Ku _ _ _ _ (by omega), fun j c hj hc => ?_, fun k' b a' hk' ha' hb => ?_⟩
 ·unfold Be
  rw [List.getElem?_set_self (by rw [List.length_map, FQ _ _ _ _ (by omega)]; exact hil)]
 ·unfold Be
  rw [List.getElem?_set_ne (by omega), List.getElem?_map, Kh (by omega) hc]
  rfl
 ·rw [hi] at ha'
  cases ha'
  exact OB (by omega) hb
theorem K0 (row : List ByteArray) (x y : List Tm) (i : Nat) (B n : Nat) : AC.rens up1 (Be row x y i (.row B n)) = Be row x y i (.row (up1 B) n) := by
 rw [AC.rens_eq]
 unfold Be
 rw [List.map_set, List.map_map]
 rfl
theorem J3 (S : AA) : ∀ xs : List SV, stCs S (xs.map .st) = some xs
 | [] => rfl
 | x :: xs => by
  rw [List.map_cons, stCs, J3 S xs]
  rfl
theorem Kf {S : AA} {c : AC} {v : SV} (h : stC S c = some v) : ∀ (xs : List SV) (i : Nat), stCs S ((xs.map .st).set i c) = some (xs.set i v)
 | [], _ => rfl
 | x :: xs, 0 => by
  rw [List.map_cons, List.set_cons_zero, List.set_cons_zero, stCs, h, J3]
 | x :: xs, i + 1 => by
  rw [List.map_cons, List.set_cons_succ, List.set_cons_succ, stCs, Kf h xs i]
  rfl
theorem take_set {cs : List AC} {k : Nat} {c : AC} (h : k < cs.length) : cs.take k ++ [c] ++ cs.drop (k + 1) = cs.set k c := by
 rw [List.set_eq_take_append_cons_drop, if_pos h]
 simp
theorem PN (row : List ByteArray) (a b : Tm) (ha : a.size ≤ 100000) (hb : b.size ≤ 100000) : AQ Try.prog 18 [At row, aTm a, aTm b] (Ag (paB row a b)) := by
 have hxl := Tm.knots_length a
 have hyl := Tm.knots_length b
 have hx0 : a.knots[0]? = some a := by rw [Tm.knots_eq]; rfl
 have hy0 : b.knots[0]? = some b := by rw [Tm.knots_eq]; rfl
 have hpa := Tm.size_pos a
 have hpb := Tm.size_pos b
 have hra : List.replicate a.knots.length [SV.list []] = (E3 row a.knots b.knots a.knots.length).map ([·]) := by
  rw [N1, List.map_replicate]
 have hz1 : 0 ≤ (a.knots.length : Int) ∧ (a.knots.length : Int).toNat = a.knots.length := by omega
 have b1 : a.knots.length ≤ maxLen := by rw [Cl]; omega
 have b2 : a.knots.length * 24 ≤ 140737488355328 := by omega
 have b3 : b.knots.length ≤ maxLen := by rw [Cl]; omega
 have b4 : b.knots.length * 1 ≤ 140737488355328 := by omega
 refine J0.ac fun C hC => ?_
 unfold GD
 repeat' (first | (with_reducible first | refine W ?_ | refine Z0 ?_ | ((first | refine Wo fun K hK => ?_ | refine Wp ?_ | refine Wq ?_ | refine Wr ?_); (try simp only [go_sem, fN, seval, eT, iR, b1, b2, Int.toNat_natCast, dT, dF, nL]); (repeat refine Ai ?_); (try (refine hK _ ?_; clear hK K)); try refine iC ?_)) | refine Cg _ (Cc a (by omega)) ?_ | refine Cg _ (Cc b (by omega)) ?_ | refine Cg _ (Nq a (by omega)) ?_ | refine Cg _ (Nq b (by omega)) ?_)
 refine IWP.ghost (Al.crow (id := 24) (e := 59) (xs := E3 row a.knots b.knots a.knots.length) (by simp only [go_sem, fN, seval, eT, iR, hra]) (by rw [FQ _ _ _ _ (Nat.le_refl _)]; omega)) ?_
 refine IWP.loopD [36] (fun q s => ∃ n, n ≤ a.knots.length ∧ q = n ∧ s.env 0 = At row ∧ s.env 7 = DD a.knots ∧ s.env 8 = DD b.knots ∧ s.env 9 = aIs (B7 a.knots) ∧ s.env 10 = aIs (B7 b.knots) ∧ s.env 11 = .one (.row 24 a.knots.length) ∧ s.env 12 = AR ((n : Int) - 1) ∧ s.S 24 = some (.crow 59 ((E3 row a.knots b.knots n).map .st)) ∧ s.S 36 = none) a.knots.length
  ⟨a.knots.length, Nat.le_refl _, rfl, by simp only [go_sem, fN, seval, eT, iR], by simp only [go_sem, fN, seval, eT, iR], by simp only [go_sem, fN, seval, eT, iR], by simp only [go_sem, fN, seval, eT, iR], by simp only [go_sem, fN, seval, eT, iR], by simp only [go_sem, fN, seval, eT, iR], by simp only [go_sem, fN, seval, eT, iR], by simp only [go_sem, fN, seval, eT, iR], by simp only [go_sem, fN, seval, eT, iR]⟩ ?_
 rintro q ⟨env, St⟩ ⟨n, hn, hqn, e0, e7, e8, e9, e10, e11, e12, s24, s36⟩
 obtain rfl := hqn.symm
 simp only at e0 e7 e8 e9 e10 e11 e12 s24 s36
 have hcl := FQ row a.knots b.knots n hn
 cases n with
 | zero =>
  have hg : ¬ (0 : Int) ≤ ((0 : Nat) : Int) - 1 := by omega
  have hr0 := Kh (row := row) (y := b.knots) (n := 0) (Nat.zero_le _) hx0
  have h0l : 0 < a.knots.length := by omega
  repeat' with_reducible first | refine W ?_ | refine Z0 ?_ | ((first | refine Wo fun K hK => ?_ | refine Wp ?_ | refine Wq ?_ | refine Wr ?_); (try simp only [go_sem, fN, seval, eT, iR, e0, e7, e8, e9, e10, e11, e12, s24, s36, hg, hcl, hr0, h0l, OH, hy0, C2, dT, dF, nL]); (repeat refine Ai ?_); (try (refine hK _ ?_; clear hK K)); try refine iC ?_)
  simp only [go_sem, fN, seval, AM, AS.result, AB, AD, AI]
 | succ i =>
  obtain ⟨x, hx⟩ := Aj (show i < a.knots.length by omega)
  have hil : i < a.knots.length := by omega
  have hg : (0 : Int) ≤ ((i + 1 : Nat) : Int) - 1 := by omega
  have hi1 : ((i + 1 : Nat) : Int) - 1 = (i : Int) := by omega
  have hts := take_set (cs := (E3 row a.knots b.knots (i + 1)).map .st) (k := i) (c := .row 36 b.knots.length) (by rw [List.length_map, hcl]; exact hil)
  have hre : List.replicate b.knots.length [SV.bool false] = (Ch row b.knots x b.knots.length).map C2 := by
   rw [N0, List.map_replicate]
   rfl
  rw [hi1] at e12 hg
  repeat' with_reducible first | refine W ?_ | refine Z0 ?_ | ((first | refine Wo fun K hK => ?_ | refine Wp ?_ | refine Wq ?_ | refine Wr ?_); (try simp only [go_sem, fN, seval, eT, iR, e0, e7, e8, e9, e10, e11, e12, s24, s36, hg, hcl, hil, hts, hre, b3, b4, dT, dF, nL]); (repeat refine Ai ?_); (try (refine hK _ ?_; clear hK K)); try refine iC ?_)
  have hcl2 := Gs row a.knots b.knots i (.row 36 b.knots.length) hil
  refine IWP.loop (fun q s => ∃ k, k ≤ b.knots.length ∧ q = k ∧ s.env 0 = At row ∧ s.env 7 = DD a.knots ∧ s.env 8 = DD b.knots ∧ s.env 9 = aIs (B7 a.knots) ∧ s.env 10 = aIs (B7 b.knots) ∧ s.env 11 = .one (.row 24 a.knots.length) ∧ s.env 12 = AR i ∧ s.env 13 = AR ((k : Int) - 1) ∧ s.S 24 = some (.crow 59 (Be row a.knots b.knots i (.row 36 b.knots.length))) ∧ s.S 36 = some (.mrow 4 1 ((Ch row b.knots x k).map C2))) b.knots.length
   ⟨b.knots.length, Nat.le_refl _, rfl, by simp only [go_sem, fN, seval, eT, iR, e0], by simp only [go_sem, fN, seval, eT, iR, e7], by simp only [go_sem, fN, seval, eT, iR, e8], by simp only [go_sem, fN, seval, eT, iR, e9], by simp only [go_sem, fN, seval, eT, iR, e10], by simp only [go_sem, fN, seval, eT, iR, e11], by simp only [go_sem, fN, seval, eT, iR, e12], by simp only [go_sem, fN, seval, eT, iR], by simp only [go_sem, fN, seval, eT, iR]; rfl, by simp only [go_sem, fN, seval, eT, iR]⟩ ?_
  rintro q ⟨env1, S1⟩ ⟨k, hk, hqk, f0, f7, f8, f9, f10, f11, f12, f13, t24, t36⟩
  obtain rfl := hqk.symm
  simp only at f0 f7 f8 f9 f10 f11 f12 f13 t24 t36
  have hel := Ku row b.knots x k hk
  cases k with
  | zero =>
   have hgk : ¬ (0 : Int) ≤ ((0 : Nat) : Int) - 1 := by omega
   rw [NP] at t36 hel
   have hlb : ((b.knots.map (paB row x)).map C2).length = b.knots.length := by simp
   refine IWP.ghost (Al.share (id := 36) t36) ?_
   refine IWP.ghost (Al.calmC (id := 24) (e := 59) (cs := Be row a.knots b.knots i (.row 36 b.knots.length)) (xs := (E3 row a.knots b.knots (i + 1)).set i (OH row b.knots x)) (by simp only [go_sem, fN, seval, eT, iR, t24]) (Kf (by simp only [go_sem, fN, seval, eT, iR, hlb]; rfl) _ _)) ?_
   rw [Mp hx]
   repeat' with_reducible first | refine W ?_ | refine Z0 ?_ | ((first | refine Wo fun K hK => ?_ | refine Wp ?_ | refine Wq ?_ | refine Wr ?_); (try simp only [go_sem, fN, seval, eT, iR, f0, f7, f8, f9, f10, f11, f12, f13, t24, t36, hgk, dT, dF, nL]); (repeat refine Ai ?_); (try (refine hK _ ?_; clear hK K)); try refine iC ?_)
   refine AH ⟨i, by omega, i, by omega, rfl, ?_⟩
   simp only [go_sem, fN, seval, AS.drop, Bc, AC.clears, AC.clear, AC.highs, AC.high, Bool.not_false, Bool.true_and, Bool.and_self, AV.purge, AV.purges, AC.purge, AJ.purge, List.contains_cons, List.contains_nil, Nat.reduceBEq, Bool.or_self, Bool.or_false, Bool.false_or, Bool.or_true, eT, iR, f0, f7, f8, f9, f10, f11, f12, f13, t24, t36]
   rw [List.map_map]
   rfl
  | succ k =>
   obtain ⟨y, hy⟩ := Aj (show k < b.knots.length by omega)
   have hkl : k < b.knots.length := by omega
   have hgk : (0 : Int) ≤ ((k + 1 : Nat) : Int) - 1 := by omega
   have hk1 : ((k + 1 : Nat) : Int) - 1 = (k : Int) := by omega
   rw [hk1] at f13 hgk
   have hml : ((Ch row b.knots x (k + 1)).map C2).length = b.knots.length := by rw [List.length_map, hel]
   have hown : (Be row a.knots b.knots i (.row 36 b.knots.length))[i]? = some (.row 36 b.knots.length) := by
    unfold Be
    rw [List.getElem?_set_self (by rw [List.length_map, hcl]; exact hil)]
   have hgt : ((Ch row b.knots x (k + 1)).map C2)[k]? = some [.bool false] := by
    have : (Ch row b.knots x (k + 1))[k]? = some false := by
     unfold Ch
     rw [List.getElem?_append_left (by simp)]
     simp
    rw [List.getElem?_map, this]
    rfl
   have hset : ((Ch row b.knots x (k + 1)).map C2).set k [.bool (paB row x y)] = (Ch row b.knots x k).map C2 := by
    rw [← NO hy, List.map_set]
    rfl
   repeat' with_reducible first | refine W ?_ | refine Z0 ?_ | ((first | refine Wo fun K hK => ?_ | refine Wp ?_ | refine Wq ?_ | refine Wr ?_); (try simp only [go_sem, fN, seval, eT, iR, f0, f7, f8, f9, f10, f11, f12, f13, t24, t36, hgk, hcl2, hil, hown, dT, dF, nL]); (repeat refine Ai ?_); (try (refine hK _ ?_; clear hK K)); try refine iC ?_)
   have call : ∀ T : AA, (∀ q ∈ [(24, AJ.crow 59 (Be row a.knots b.knots i (.row 36 b.knots.length))), (36, AJ.mrow 4 1 ((Ch row b.knots x (k + 1)).map C2))], T q.1 = some q.2) → BE Try.prog 31 [At row, DD a.knots, DD b.knots, aIs (B7 a.knots), aIs (B7 b.knots), .one (.row (up1 24) a.knots.length), AR i, AR k] (upS T) (Ag (paB row x y)) (upS T) := fun T hT => by
    have h24 : T 24 = _ := hT (24, AJ.crow 59 (Be row a.knots b.knots i (.row 36 b.knots.length))) (by simp)
    have h36 : T 36 = _ := hT (36, AJ.mrow 4 1 ((Ch row b.knots x (k + 1)).map C2)) (by simp)
    exact LC row a b i k x y hx hy (by omega) (by omega) (up1 24) (up1 36) (Be row a.knots b.knots i (.row (up1 36) b.knots.length)) (Ch row b.knots x (k + 1)) (upS T) (BL _) (BL _) (by rw [CF, h24]; exact congrArg (fun z => some (AJ.crow 59 z)) (K0 row a.knots b.knots i 36 b.knots.length)) (by rw [CF, h36]; rfl) (PH hx hkl)
   refine ⟨_, [(24, .crow 59 (Be row a.knots b.knots i (.row 36 b.knots.length))), (36, .mrow 4 1 ((Ch row b.knots x (k + 1)).map C2))], fun q hq => ?_, call, ?_⟩
   ·simp only [List.mem_cons, List.not_mem_nil, or_false] at hq
    rcases hq with rfl | rfl
    ·exact t24
    ·exact t36
   repeat' with_reducible first | refine W ?_ | refine Z0 ?_ | ((first | refine Wo fun K hK => ?_ | refine Wp ?_ | refine Wq ?_ | refine Wr ?_); (try simp only [go_sem, fN, seval, eT, iR, f0, f7, f8, f9, f10, f11, f12, f13, t24, t36, hml, hgt, hset, hkl, dT, dF, nL]); (repeat refine Ai ?_); (try (refine hK _ ?_; clear hK K)); try refine iC ?_)
   refine AH ⟨k, by omega, k, by omega, rfl, ?_⟩
   simp only [go_sem, fN, seval, eT, iR, f0, f7, f8, f9, f10, f11, f12, f13, t24, t36, hset]

theorem Al.memoWeak {C : Ctx} {s : AS} {id : Nat} {f f' : List SV → List SV → SV → Prop} (hS : s.S id = some (.memo f)) (hf : ∀ cs ds x, f cs ds x → f' cs ds x) : Al C s (s.set id (.memo f')) := fun a w ⟨σ, ι, R⟩ => by
 have hb := R.blk _ _ hS
 cases hb with
 | @memo _ g ents h1 h2 h3 h4 =>
  obtain ⟨hu, R'⟩ := R.turn (w' := w) hS (.memo f') (ι id) (σ' := σ) (fun _ _ h => h) (fun _ _ _ => rfl) R.fit (Nat.le_refl _) (fun _ => ⟨rfl, rfl⟩) ⟨rfl, rfl, rfl⟩ (Nat.le_refl _) (fun _ _ _ => rfl) (fun g h => .inl h) (fun hu => .memo h1 h2 (h3.weak hf) h4)
  exact ⟨σ, _, R'⟩
theorem Al.freeze {C : Ctx} {s : AS} (id : Nat) (ts : List Nat) {ty : TypeId} {xs : List SV} (hS : s.S id = some (.box ty (xs.map .st))) (hl : 0 < xs.length) (ht : ∀ t ∈ ts, s.env t = .one (.ptr id 1 0 0)) :
  Al C s ⟨fun t => if t ∈ ts then .one (.eptr xs) else s.env t, AP s.S id (some (.dead 1 0))⟩ := fun a w ⟨σ, ι, R⟩ => by
 have hb := R.blk _ _ hS
 cases hb with
 | @box _ _ g vs h1 h2 h3 h4 h5 =>
  have hkeep := EV (σ := σ) (w' := w) (g := g) (k := xs.length) (fun p x e hx => by rw [h5 _ e] at hx; cases hx)
  obtain ⟨hu, R'⟩ := R.turn (w' := w) hS (.dead 1 0) (ι id) (σ' := C3 σ w g xs.length) hkeep (fun p hp _ => EQ (fun e => hp (by rw [e]; exact h1))) (DX R.fit) (Nat.le_refl _) (fun _ => ⟨rfl, rfl⟩) ⟨rfl, rfl, rfl⟩ (Nat.le_refl _) (fun _ _ _ => rfl) (fun g h => .inl h)
   (fun hu => .dead fun g' hg' => by rw [h1] at hg'; cases hg'; exact ⟨_, h3, rfl⟩)
  refine ⟨_, _, R'.size, fun i hi => ?_, R'.nod, R'.fit, R'.blk, R'.inj, R'.base, R'.ext, R'.old, R'.os, R'.grown, R'.same, R'.upd⟩
  show AO _ _ _ _ (if i ∈ ts then .one (.eptr xs) else s.env i)
  split
  ·rename_i hm
   have re := R.env i hi
   rw [ht i hm] at re
   obtain ⟨b, q1, q2, q3⟩ := DI (AN re)
   rw [hS] at q1
   cases q1
   obtain ⟨g', e1, e2⟩ := q3 rfl
   rw [h1] at e1
   cases e1
   rw [e2]
   have cell : ∀ j x, xs[j]? = some x → ∃ v, vs[j]? = some v ∧ Af σ v x := fun j x hx => by
    obtain ⟨v, v1, v2⟩ := h4.get (j := j) (b := .st x) (by rw [List.getElem?_map, hx]; rfl)
    exact ⟨v, by simpa using v1, Bo v2⟩
   refine .one (.eptr (fun j => (vs[j]?).getD undef) (fun j x hx => ?_) (fun j x hx => ?_) (fun _ _ => ?_))
   ·obtain ⟨v, v1, v2⟩ := cell j x hx
    have hj := (List.getElem?_eq_some_iff.1 hx).1
    rw [show (0 * (AJ.box ty (xs.map AC.st)).wid + 0 + j) = j by omega, JT hj, cell_of_row w g _ _ _ _ h3, v1]
    rfl
   ·obtain ⟨v, v1, v2⟩ := cell j x hx
    rw [v1]
    exact v2.mono hkeep
   ·rw [Fl hl, Eb h3]
  ·exact R'.env i hi

set_option maxRecDepth 100000
def BS : IR :=
 (.seq (.ops [.i 6 (.mov (.c (.one (.st (.bool false)))))]) (.seq (.seq (.ops [.m 11 1, .i 12 (.nilCheck (.t 11)), .f 13 1 12, .l 14 13, .i 15 (.len false (.t 14)), .i 16 (.mov (.n 0))]) (.block 0 (.loop (.seq (.ops [.i 17 (.bin .lss (.t 16) (.t 15))]) (.seq (.cond (.t 17) .skip (.exit 0)) (.seq (.block 1 (.seq (.ops [.m 18 16, .m 7 18]) (.seq (.ops [.m 19 1, .i 20 (.nilCheck (.t 19)), .f 21 1 20, .l 22 21, .m 23 7, .i 24 (.indexAddr 2 (.t 22) (.t 23)), .L 25 2 24, .m 26 2, .i 27 (.nilCheck (.t 26)), .L 28 2 27, .i 29 (.call 49 [.t 25, .t 28]), .m 30 29, .mk (some 31) (some (30, false)) (.mov (.t 0)) .no, .mk (some 32) (some (30, false)) (.mov (.t 1)) .no, .mk (some 33) (some (30, false)) (.nilCheck (.t 32)) .no, .mk (some 34) (some (30, false)) (.fieldAddr 1 (.t 33)) .no, .mk (some 35) (some (30, false)) (.load false 1 (.t 34)) .no, .mk (some 36) (some (30, false)) (.mov (.t 7)) .no, .mk (some 37) (some (30, false)) (.indexAddr 2 (.t 35) (.t 36)) .no, .mk (some 38) (some (30, false)) (.mov (.t 2)) .no, .mk (some 39) (some (30, false)) (.callR 45 [.t 31, .t 37, .t 38]) .no, .i 40 (.pick (.t 30) (.c (.one (.st (.bool true)))) (.t 39))]) (.cond (.t 40) (.seq (.ops [.i 6 (.mov (.c (.one (.st (.bool true)))))]) .ret) .skip)))) (.ops [.i 41 (.bin .add (.t 16) (.n 1)), .m 16 41]))))))) (.seq (.seq (.ops [.m 42 2, .i 43 (.nilCheck (.t 42)), .f 44 0 43, .l 45 44, .i 46 (.call 40 [.t 45])]) (.cond (.t 46) (.seq (.ops [.i 6 (.mov (.c (.one (.st (.bool false)))))]) .ret) .skip)) (.seq (.ops [.m 47 0, .i 48 (.nilCheck (.t 47)), .f 49 0 48, .l 50 49, .m 51 1, .i 52 (.nilCheck (.t 51)), .L 53 2 52, .m 54 2, .i 55 (.nilCheck (.t 54)), .L 56 2 55, .i 57 (.call 48 [.t 50, .t 53, .t 56]), .m 8 57]) (.seq (.seq (.ops [.m 58 8, .i 59 (.bin .lss (.t 58) (.n 0))]) (.cond (.t 59) (.seq (.ops [.i 6 (.mov (.c (.one (.st (.bool false)))))]) .ret) .skip)) (.seq (.seq (.ops [.m 60 2, .i 61 (.nilCheck (.t 60)), .f 62 1 61, .l 63 62, .i 64 (.len false (.t 63)), .i 65 (.mov (.n 0))]) (.block 2 (.loop (.seq (.ops [.i 66 (.bin .lss (.t 65) (.t 64))]) (.seq (.cond (.t 66) .skip (.exit 2)) (.seq (.block 3 (.seq (.ops [.m 67 65, .m 9 67]) (.seq (.ops [.m 68 0, .m 69 1, .m 70 2, .i 71 (.nilCheck (.t 70)), .f 72 1 71, .l 73 72, .m 74 9, .i 75 (.indexAddr 2 (.t 73) (.t 74)), .i 76 (.callR 45 [.t 68, .t 69, .t 75]), .i 77 (.un .not (.t 76))]) (.cond (.t 77) (.seq (.ops [.i 6 (.mov (.c (.one (.st (.bool false)))))]) .ret) .skip)))) (.ops [.i 78 (.bin .add (.t 65) (.n 1)), .m 65 78]))))))) (.seq (.seq (.ops [.m 79 8, .i 80 (.bin .gtr (.t 79) (.n 0))]) (.cond (.t 80) (.seq (.ops [.i 6 (.mov (.c (.one (.st (.bool true)))))]) .ret) .skip)) (.seq (.seq (.ops [.m 81 1, .i 82 (.nilCheck (.t 81)), .f 83 1 82, .l 84 83, .i 85 (.len false (.t 84)), .i 86 (.mov (.n 0))]) (.block 4 (.loop (.seq (.ops [.i 87 (.bin .lss (.t 86) (.t 85))]) (.seq (.cond (.t 87) .skip (.exit 4)) (.seq (.block 5 (.seq (.ops [.m 88 86, .m 10 88]) (.seq (.ops [.m 89 1, .i 90 (.nilCheck (.t 89)), .f 91 1 90, .l 92 91, .m 93 10, .i 94 (.indexAddr 2 (.t 92) (.t 93)), .L 95 2 94, .m 96 2, .i 97 (.nilCheck (.t 96)), .f 98 1 97, .l 99 98, .m 100 10, .i 101 (.indexAddr 2 (.t 99) (.t 100)), .L 102 2 101, .i 103 (.call 49 [.t 95, .t 102]), .i 104 (.un .not (.t 103))]) (.cond (.t 104) (.seq (.ops [.m 105 0, .m 106 1, .i 107 (.nilCheck (.t 106)), .f 108 1 107, .l 109 108, .m 110 10, .i 111 (.indexAddr 2 (.t 109) (.t 110)), .m 112 2, .i 113 (.nilCheck (.t 112)), .f 114 1 113, .l 115 114, .m 116 10, .i 117 (.indexAddr 2 (.t 115) (.t 116)), .i 118 (.callR 45 [.t 105, .t 111, .t 117]), .m 6 118]) .ret) .skip)))) (.ops [.i 119 (.bin .add (.t 86) (.n 1)), .m 86 119]))))))) (.seq (.ops [.i 6 (.mov (.c (.one (.st (.bool false)))))]) .ret)))))))))
theorem CY : OkF Try.prog 53 120 [40000039, 40000076, 40000118] BS [.t 6] := .of Try.func53 rfl rfl (by kernel_rfl) rfl
def BO : IR :=
 (.seq (.ops [.i 6 (.mov (.c (.one (.st (.bool false)))))]) (.seq (.seq (.ops [.m 11 1, .i 12 (.nilCheck (.t 11)), .f 13 0 12, .l 14 13, .i 15 (.call 40 [.t 14])]) (.cond (.t 15) (.seq (.ops [.i 6 (.mov (.c (.one (.st (.bool false)))))]) .ret) .skip)) (.seq (.ops [.m 16 1, .m 17 2, .i 18 (.buildArr [.t 16, .t 17]), .i 7 (.alloc 78 [.st (.lit (.pointer none)), .st (.lit (.pointer none))]), .s 2 7 18]) (.seq (.seq (.ops [.m 20 0, .i 21 (.nilCheck (.t 20)), .f 22 1 21, .l 23 22, .L 24 2 7, .i 25 (.memoGet true (.one (.st (.bool false))) (.t 23) (.t 24)), .m 19 25, .i 26 (.extract 0 (.t 19)), .i 27 (.extract 1 (.t 19)), .m 8 26, .m 9 27]) (.seq (.ops [.m 28 9]) (.cond (.t 28) (.seq (.ops [.m 29 8, .m 6 29]) .ret) .skip))) (.seq (.ops [.m 30 0, .m 31 1, .m 32 2, .i 33 (.callR 53 [.t 30, .t 31, .t 32]), .m 10 33]) (.seq (.ops [.m 34 0, .i 35 (.nilCheck (.t 34)), .f 36 1 35, .l 37 36, .L 38 2 7, .m 39 10, .mk none none (.memoSet (.t 37) (.t 38) (.t 39)) .no]) (.seq (.ops [.m 40 10, .m 6 40]) .ret)))))))
theorem CE : OkF Try.prog 45 41 [40000033] BO [.t 6] := .of Try.func45 rfl rfl (by kernel_rfl) rfl
def ED : IR :=
 (.seq (.ops [.i 4 (.box 25 (.t 1)), .i 5 (.box 25 (.t 2)), .i 6 (.mov (.c (.one (.st (.bool false)))))]) (.seq (.ops [.m 8 0, .i 9 .makeMemo, .i 10 (.build [.full [], .st (.lit (.map none))] [(0, 1, .t 8), (1, 1, .t 9)]), .i 11 (.box 71 (.t 10)), .m 7 11]) (.seq (.ops [.m 12 7, .i 13 (.callR 45 [.t 12, .t 4, .t 5]), .m 6 13]) .ret)))
theorem G_ : OkF Try.prog 37 14 [40000013] ED [.t 6] := .of Try.func37 rfl rfl (by kernel_rfl) rfl
def Ew : IR :=
 (.seq (.ops [.i 4 (.box 25 (.t 1)), .i 5 (.box 25 (.t 2)), .i 6 (.mov (.c (.one (.st (.bool false))))), .i 7 (.mov (.n 0))]) (.seq (.seq (.ops [.m 9 0, .L 10 2 4, .L 11 2 5, .i 12 (.call 36 [.t 9, .t 10, .t 11]), .m 8 12]) (.seq (.ops [.m 13 8, .i 14 (.bin .neq (.t 13) (.n 0))]) (.cond (.t 14) (.seq (.ops [.m 15 8, .i 6 (.mov (.c (.one (.st (.bool false))))), .m 7 15]) .ret) .skip))) (.seq (.ops [.m 16 0, .L 17 2 4, .L 18 2 5, .i 19 (.call 37 [.t 16, .t 17, .t 18]), .m 6 19, .i 7 (.mov (.n 0))]) .ret)))
theorem Hq : OkF Try.prog 20 20 [] Ew [.t 6, .t 7] := .of Try.func20 rfl rfl (by kernel_rfl) rfl

theorem JY {σ : Sto} {v : Value} {s s' : ByteArray} (h : Af σ v (.str s)) (h' : Af σ v (.str s')) : s = s' := by
 cases h with
 | str _ => cases h' with
  | str _ => rfl
theorem MK {σ : Sto} {v : Value} {xs ys : List (List SV)} (h : Af σ v (.list xs)) (h' : Af σ v (.list ys)) (w : Nat) (hx : ∀ x ∈ xs, x.length = w) (hy : ∀ y ∈ ys, y.length = w) :
  xs.length = ys.length ∧ ∀ (k : Nat) (x y : List SV), xs[k]? = some x → ys[k]? = some y → ∃ c : Nat → Value, (∀ j u, x[j]? = some u → Af σ (c j) u) ∧ ∀ j u, y[j]? = some u → Af σ (c j) u := by
 cases h with
 | @list p len cap b o w1 _ c h1 h2 h3 h4 h5 h6 hh h7 h8 =>
 cases h' with
 | @list _ _ _ b' o' w2 _ c' k1 k2 k3 k4 k5 k6 kh k7 k8 =>
 refine ⟨by omega, fun k x y ex ey => ⟨c k, fun j u hu => h8 k x j u ex hu, fun j u hu => ?_⟩⟩
 have m1 := List.mem_of_getElem? ex
 have m2 := List.mem_of_getElem? ey
 have hl := (List.getElem?_eq_some_iff.1 ex).1
 have e1 := h5 (by omega)
 have e2 := k5 (by omega)
 rw [e1] at e2
 cases e2
 have w1e : w1 = w := (h6 x m1).symm.trans (hx x m1)
 have w2e : w2 = w := (k6 y m2).symm.trans (hy y m2)
 have hj : j < x.length := by
  rw [hx x m1, ← hy y m2]
  exact (List.getElem?_eq_some_iff.1 hu).1
 have q1 := h7 k x j _ ex (List.getElem?_eq_getElem hj)
 have q2 := k7 k y j u ey hu
 rw [w1e] at q1
 rw [w2e, q1] at q2
 rw [Option.some.inj q2]
 exact k8 k y j u ey hu
theorem Jr : ∀ (N : Nat) (a b : Tm) (σ : Sto) (c : Nat → Value), SizeOf.sizeOf a < N → (∀ j x, (BI a)[j]? = some x → Af σ (c j) x) → (∀ j x, (BI b)[j]? = some x → Af σ (c j) x) → a = b
 | 0, _, _, _, _, h, _, _ => absurd h (Nat.not_lt_zero _)
 | N + 1, a, b, σ, c, hN, ha, hb => by
  rw [Ac] at ha hb
  have hn := JY (ha 0 _ rfl) (hb 0 _ rfl)
  have hlen : ∀ {l : List Tm}, ∀ x ∈ l.map BI, x.length = 2 := fun x hx => by
   obtain ⟨t, _, rfl⟩ := List.mem_map.1 hx
   exact Kg t
  obtain ⟨hl, hr⟩ := MK (ha 1 _ rfl) (hb 1 _ rfl) 2 hlen hlen
  rw [List.length_map, List.length_map] at hl
  have hargs : a.args = b.args := by
   apply List.ext_getElem?
   intro k
   by_cases hk : k < a.args.length
   ·have e1 : a.args[k]? = some a.args[k] := List.getElem?_eq_getElem hk
    have e2 : b.args[k]? = some (b.args[k]'(by omega)) := List.getElem?_eq_getElem (by omega)
    obtain ⟨c', q1, q2⟩ := hr k (BI a.args[k]) (BI (b.args[k]'(by omega))) (by rw [List.getElem?_map, e1]; rfl) (by rw [List.getElem?_map, e2]; rfl)
    have hlt := Tm.lt_of_arg (List.mem_of_getElem? e1)
    rw [e1, e2, Jr N _ _ σ c' (by omega) q1 q2]
   ·rw [List.getElem?_eq_none (by omega), List.getElem?_eq_none (by omega)]
  cases a
  cases b
  simp only [Tm.name, Tm.args] at hn hargs
  rw [hn, hargs]
theorem Lw {a b : Tm} (h : M5 (BI a) (BI b)) : a = b := by
 obtain ⟨σ, c, h1, h2⟩ := h
 exact Jr _ a b σ c (Nat.lt_succ_self _) h1 h2

def Eh : IR :=
 (.seq (.ops [.i 2 (.box 25 (.t 0)), .i 3 (.box 25 (.t 1)), .i 4 (.mov (.n 0))]) (.seq (.seq (.ops [.L 6 2 2, .i 7 (.call 52 [.t 6]), .m 5 7]) (.seq (.ops [.m 8 5, .i 9 (.bin .neq (.t 8) (.n 0))]) (.cond (.t 9) (.seq (.ops [.m 10 5, .m 4 10]) .ret) .skip))) (.seq (.ops [.L 11 2 3, .i 12 (.call 52 [.t 11]), .m 4 12]) .ret)))
theorem Ht : OkF Try.prog 44 13 [] Eh [.t 4] := .of Try.func44 rfl rfl (by kernel_rfl) rfl

theorem Pk (a b : Tm) : AQ Try.prog 44 [aTm a, aTm b] (AR (Cp a b)) := by
 refine Ht.ac fun C hC => ?_
 unfold Eh
 repeat' with_reducible first | refine W ?_ | refine Z0 ?_ | ((first | refine Wo fun K hK => ?_ | refine Wp ?_ | refine Wq ?_ | refine Wr ?_); (try simp only [go_sem, fN, seval, eT, iR, dT, dF, nL]); (repeat refine Ai ?_); (try (refine hK _ ?_; clear hK K)); try refine iC ?_)
 refine ⟨_, Kq a, ?_⟩
 by_cases h : a.may = 0
 ·repeat' (first | (with_reducible first | refine W ?_ | refine Z0 ?_ | ((first | refine Wo fun K hK => ?_ | refine Wp ?_ | refine Wq ?_ | refine Wr ?_); (try simp only [go_sem, fN, seval, eT, iR, h, dT, dF, nL]); (repeat refine Ai ?_); (try (refine hK _ ?_; clear hK K)); try refine iC ?_)) | refine Cg _ (Kq b) ?_)
  simp only [go_sem, fN, seval, AM, AS.result, AB, AD, AI]
  unfold Cp
  rw [if_pos h]
 ·repeat' with_reducible first | refine W ?_ | refine Z0 ?_ | ((first | refine Wo fun K hK => ?_ | refine Wp ?_ | refine Wq ?_ | refine Wr ?_); (try simp only [go_sem, fN, seval, eT, iR, h, dT, dF, nL]); (repeat refine Ai ?_); (try (refine hK _ ?_; clear hK K)); try refine iC ?_)
  simp only [go_sem, fN, seval, AM, AS.result, AB, AD, AI]
  unfold Cp
  rw [if_neg h]

def BP : IR :=
 (.seq (.ops [.i 4 (.mov (.n 0))]) (.seq (.seq (.ops [.m 6 0, .i 7 (.len false (.t 6)), .i 8 (.mov (.n 0))]) (.block 0 (.loop (.seq (.ops [.i 9 (.bin .lss (.t 8) (.t 7))]) (.seq (.cond (.t 9) .skip (.exit 0)) (.seq (.block 1 (.seq (.ops [.m 10 8, .m 5 10]) (.seq (.ops [.m 11 1, .m 12 0, .m 13 5, .i 14 (.indexAddr 1 (.t 12) (.t 13)), .l 15 14, .i 16 (.bin .eql (.t 11) (.t 15))]) (.cond (.t 16) (.seq (.ops [.m 17 5, .m 4 17]) .ret) .skip)))) (.ops [.i 18 (.bin .add (.t 8) (.n 1)), .m 8 18]))))))) (.seq (.ops [.i 4 (.mov (.c (.one (.st (.int .i64 (-1))))))]) .ret)))
theorem CD : OkF Try.prog 51 19 [] BP [.t 4] := .of Try.func51 rfl rfl (by kernel_rfl) rfl
def DP : IR :=
 (.seq (.ops [.i 2 (.mov (.c (.one (.st (.bool false)))))]) (.seq (.ops [.m 3 0, .m 4 0, .i 5 (.bin .neq (.t 3) (.t 4)), .m 2 5]) .ret))
theorem Fr : OkF Try.prog 60 6 [] DP [.t 2] := .of Try.func60 rfl rfl (by kernel_rfl) rfl
def C0 : IR :=
 (.seq (.ops [.i 4 (.mov (.n 0))]) (.seq (.ops [.m 7 0, .i 8 (.call 60 [.t 7]), .m 5 8]) (.seq (.ops [.m 9 1, .i 10 (.call 60 [.t 9]), .m 6 10]) (.seq (.seq (.ops [.m 11 5]) (.cond (.t 11) (.seq (.seq (.ops [.m 12 6]) (.cond (.t 12) (.seq (.ops [.i 4 (.mov (.n 0))]) .ret) .skip)) (.seq (.ops [.i 4 (.mov (.c (.one (.st (.int .i64 (-1))))))]) .ret)) .skip)) (.seq (.seq (.ops [.m 13 6]) (.cond (.t 13) (.seq (.ops [.i 4 (.mov (.n 1))]) .ret) .skip)) (.seq (.seq (.ops [.m 14 0, .m 15 1, .i 16 (.bin .lss (.t 14) (.t 15))]) (.cond (.t 16) (.seq (.ops [.i 4 (.mov (.c (.one (.st (.int .i64 (-1))))))]) .ret) .skip)) (.seq (.seq (.ops [.m 17 0, .m 18 1, .i 19 (.bin .gtr (.t 17) (.t 18))]) (.cond (.t 19) (.seq (.ops [.i 4 (.mov (.n 1))]) .ret) .skip)) (.seq (.ops [.i 4 (.mov (.n 0))]) .ret))))))))
theorem E2 : OkF Try.prog 55 20 [] C0 [.t 4] := .of Try.func55 rfl rfl (by kernel_rfl) rfl
def Ej : IR :=
 (.seq (.ops [.i 2 (.mov (.n 0))]) (.seq (.ops [.i 3 (.mov (.n 0))]) (.seq (.seq (.ops [.m 6 0, .i 7 (.len false (.t 6)), .i 8 (.mov (.n 0))]) (.block 0 (.loop (.seq (.ops [.i 9 (.bin .lss (.t 8) (.t 7))]) (.seq (.cond (.t 9) .skip (.exit 0)) (.seq (.block 1 (.seq (.ops [.i 10 (.indexAddr 1 (.t 6) (.t 8)), .l 11 10, .m 5 11]) (.seq (.ops [.m 12 5, .m 13 3, .i 14 (.bin .neq (.t 12) (.t 13))]) (.cond (.t 14) (.seq (.ops [.m 15 5, .m 2 15]) .ret) .skip)))) (.ops [.i 16 (.bin .add (.t 8) (.n 1)), .m 8 16]))))))) (.seq (.ops [.m 17 3, .m 2 17]) .ret))))
theorem Hv : OkF Try.prog 54 18 [] Ej [.t 2] := .of Try.func54 rfl rfl (by kernel_rfl) rfl
def DK : IR :=
 (.seq (.ops [.i 4 (.box 25 (.t 1)), .i 5 (.box 25 (.t 2)), .i 6 (.mov (.n 0))]) (.seq (.ops [.m 7 0, .f 8 0 4, .l 9 8, .i 10 (.call 51 [.t 7, .t 9]), .m 11 0, .f 12 0 5, .l 13 12, .i 14 (.call 51 [.t 11, .t 13]), .i 15 (.call 55 [.t 10, .t 14]), .f 16 0 4, .l 17 16, .f 18 0 5, .l 19 18, .i 20 (.call 56 [.t 17, .t 19]), .f 21 1 4, .l 22 21, .i 23 (.len false (.t 22)), .f 24 1 5, .l 25 24, .i 26 (.len false (.t 25)), .i 27 (.call 55 [.t 23, .t 26]), .i 28 (.buildFlat [.t 15, .t 20, .t 27]), .i 29 (.call 54 [.t 28]), .m 6 29]) .ret))
theorem Fq : OkF Try.prog 48 30 [] DK [.t 6] := .of Try.func48 rfl rfl (by kernel_rfl) rfl
def D_ : IR :=
 (.seq (.ops [.i 2 (.mov (.n 0))]) (.seq (.seq (.ops [.m 5 0, .i 6 (.len false (.t 5)), .i 7 (.bin .gtr (.t 6) (.n 40))]) (.cond (.t 7) (.seq (.ops [.i 2 (.mov (.n 3))]) .ret) .skip)) (.seq (.seq (.ops [.m 8 0, .i 9 (.len false (.t 8)), .i 10 (.mov (.n 0))]) (.block 0 (.loop (.seq (.ops [.i 11 (.bin .lss (.t 10) (.t 9))]) (.seq (.cond (.t 11) .skip (.exit 0)) (.seq (.block 1 (.seq (.ops [.m 12 10, .i 13 (.indexAddr 1 (.t 8) (.t 10)), .l 14 13, .m 3 12, .m 4 14]) (.seq (.seq (.ops [.m 15 4, .i 16 (.call 39 [.t 15]), .i 17 (.un .not (.t 16)), .m 18 17, .mk (some 19) (some (18, false)) (.mov (.t 4)) .no, .mk (some 20) (some (18, false)) (.call 40 [.t 19]) .no, .i 21 (.pick (.t 18) (.c (.one (.st (.bool true)))) (.t 20))]) (.cond (.t 21) (.seq (.ops [.i 2 (.mov (.n 1))]) .ret) .skip)) (.seq (.ops [.m 22 0, .m 23 3, .i 24 (.sliceL 1 (.t 22) none (some (.t 23))), .m 25 4, .i 26 (.call 41 [.t 24, .t 25])]) (.cond (.t 26) (.seq (.ops [.i 2 (.mov (.n 4))]) .ret) .skip))))) (.ops [.i 27 (.bin .add (.t 10) (.n 1)), .m 10 27]))))))) (.seq (.ops [.i 2 (.mov (.n 0))]) .ret))))
theorem HA : OkF Try.prog 22 28 [] D_ [.t 2] := .of Try.func22 rfl rfl (by kernel_rfl) rfl
def Eu : IR :=
 (.seq (.ops [.i 4 (.box 25 (.t 1)), .i 5 (.box 25 (.t 2)), .i 6 (.mov (.n 0))]) (.seq (.seq (.ops [.m 8 0, .i 9 (.call 22 [.t 8]), .m 7 9]) (.seq (.ops [.m 10 7, .i 11 (.bin .neq (.t 10) (.n 0))]) (.cond (.t 11) (.seq (.ops [.m 12 7, .m 6 12]) .ret) .skip))) (.seq (.ops [.L 13 2 4, .L 14 2 5, .i 15 (.call 44 [.t 13, .t 14]), .m 6 15]) .ret)))
theorem Hj : OkF Try.prog 36 16 [] Eu [.t 6] := .of Try.func36 rfl rfl (by kernel_rfl) rfl
def EI : IR :=
 (.seq (.ops [.i 3 (.box 25 (.t 0))]) (.seq (.seq (.ops [.f 8 0 3, .l 9 8, .i 10 (.call 40 [.t 9])]) (.cond (.t 10) (.ops [.m 11 1, .f 12 0 3, .l 13 12, .i 14 (.lookup none false (.one (.st (.int .i64 0))) (.t 11) (.t 13)), .m 15 2, .i 16 (.bin .add (.t 14) (.t 15)), .mk none none (.mapSet none (.t 11) (.t 13) (.t 16)) .no]) .skip)) (.seq (.ops [.f 17 1 3, .l 18 17, .i 19 (.len false (.t 18)), .i 20 (.mov (.n 0))]) (.block 0 (.loop (.seq (.ops [.i 21 (.bin .lss (.t 20) (.t 19))]) (.seq (.cond (.t 21) .skip (.exit 0)) (.seq (.block 1 (.seq (.ops [.i 22 (.indexAddr 2 (.t 18) (.t 20)), .L 23 2 22, .i 7 (.alloc 25 [.st (.str (ByteArray.mk (#[]))), .full []]), .s 2 7 23]) (.ops [.L 24 2 7, .m 25 1, .m 26 2, .i 27 (.callS 46 [.t 24, .t 25, .t 26])]))) (.ops [.i 28 (.bin .add (.t 20) (.n 1)), .m 20 28])))))))))
theorem He : OkF Try.prog 46 29 [27] EI [] := .of Try.func46 rfl rfl (by kernel_rfl) rfl
def Da : IR :=
 (.seq (.ops [.i 4 (.box 25 (.t 1)), .i 5 (.box 25 (.t 2)), .i 6 (.mov (.c (.one (.st (.bool false)))))]) (.seq (.ops [.i 13 (.makeMap none), .m 7 13]) (.seq (.ops [.L 14 2 4, .m 15 7, .i 16 (.callS 46 [.t 14, .t 15, .n 1])]) (.seq (.ops [.L 17 2 5, .m 18 7, .i 19 (.callS 46 [.t 17, .t 18, .c (.one (.st (.int .i64 (-1))))])]) (.seq (.seq (.ops [.m 20 7, .i 21 (.rangeM (.t 20))]) (.block 0 (.loop (.seq (.ops [.i 22 (.next (.t 21)), .i 23 (.extract 0 (.t 22))]) (.seq (.cond (.t 23) .skip (.exit 0)) (.block 1 (.seq (.ops [.i 24 (.entry (.t 21)), .i 25 (.extract 1 (.t 24)), .m 9 25]) (.seq (.ops [.m 26 9, .i 27 (.bin .lss (.t 26) (.n 0))]) (.cond (.t 27) (.seq (.ops [.i 6 (.mov (.c (.one (.st (.bool false)))))]) .ret) .skip))))))))) (.seq (.seq (.ops [.L 28 2 4, .i 29 (.call 47 [.t 28]), .L 30 2 5, .i 31 (.call 47 [.t 30]), .i 32 (.bin .sub (.t 29) (.t 31)), .m 10 32]) (.seq (.ops [.m 33 10, .i 34 (.bin .neq (.t 33) (.n 0))]) (.cond (.t 34) (.seq (.ops [.m 35 10, .i 36 (.bin .gtr (.t 35) (.n 0)), .m 6 36]) .ret) .skip))) (.seq (.seq (.ops [.f 37 0 4, .l 38 37, .i 39 (.call 40 [.t 38]), .m 40 39, .mk (some 41) (some (40, false)) (.fieldAddr 0 (.t 5)) .no, .mk (some 42) (some (40, false)) (.load false 1 (.t 41)) .no, .mk (some 43) (some (40, false)) (.call 40 [.t 42]) .no, .i 44 (.pick (.t 40) (.c (.one (.st (.bool true)))) (.t 43))]) (.cond (.t 44) (.seq (.ops [.i 6 (.mov (.c (.one (.st (.bool false)))))]) .ret) .skip)) (.seq (.seq (.ops [.m 45 0, .L 46 2 4, .L 47 2 5, .i 48 (.call 48 [.t 45, .t 46, .t 47]), .m 11 48]) (.seq (.ops [.m 49 11, .i 50 (.bin .neq (.t 49) (.n 0))]) (.cond (.t 50) (.seq (.ops [.m 51 11, .i 52 (.bin .gtr (.t 51) (.n 0)), .m 6 52]) .ret) .skip))) (.seq (.seq (.ops [.f 53 1 4, .l 54 53, .i 55 (.len false (.t 54)), .i 56 (.mov (.n 0))]) (.block 2 (.loop (.seq (.ops [.i 57 (.bin .lss (.t 56) (.t 55))]) (.seq (.cond (.t 57) .skip (.exit 2)) (.seq (.block 3 (.seq (.ops [.m 58 56, .m 12 58]) (.seq (.ops [.f 59 1 4, .l 60 59, .m 61 12, .i 62 (.indexAddr 2 (.t 60) (.t 61)), .L 63 2 62, .f 64 1 5, .l 65 64, .m 66 12, .i 67 (.indexAddr 2 (.t 65) (.t 66)), .L 68 2 67, .i 69 (.call 49 [.t 63, .t 68]), .i 70 (.un .not (.t 69))]) (.cond (.t 70) (.seq (.ops [.m 71 0, .f 72 1 4, .l 73 72, .m 74 12, .i 75 (.indexAddr 2 (.t 73) (.t 74)), .L 76 2 75, .f 77 1 5, .l 78 77, .m 79 12, .i 80 (.indexAddr 2 (.t 78) (.t 79)), .L 81 2 80, .i 82 (.call 38 [.t 71, .t 76, .t 81]), .m 6 82]) .ret) .skip)))) (.ops [.i 83 (.bin .add (.t 56) (.n 1)), .m 56 83]))))))) (.seq (.ops [.i 6 (.mov (.c (.one (.st (.bool false)))))]) .ret))))))))))
theorem Fw : OkF Try.prog 38 84 [16, 19] Da [.t 6] := .of Try.func38 rfl rfl (by kernel_rfl) rfl
def Dx : IR :=
 (.seq (.ops [.i 4 (.box 25 (.t 1)), .i 5 (.box 25 (.t 2)), .i 6 (.mov (.c (.one (.st (.bool false))))), .i 7 (.mov (.n 0))]) (.seq (.seq (.ops [.m 9 0, .L 10 2 4, .L 11 2 5, .i 12 (.call 36 [.t 9, .t 10, .t 11]), .m 8 12]) (.seq (.ops [.m 13 8, .i 14 (.bin .neq (.t 13) (.n 0))]) (.cond (.t 14) (.seq (.ops [.m 15 8, .i 6 (.mov (.c (.one (.st (.bool false))))), .m 7 15]) .ret) .skip))) (.seq (.ops [.m 16 0, .L 17 2 4, .L 18 2 5, .i 19 (.call 38 [.t 16, .t 17, .t 18]), .m 6 19, .i 7 (.mov (.n 0))]) .ret)))
theorem GW : OkF Try.prog 21 20 [] Dx [.t 6, .t 7] := .of Try.func21 rfl rfl (by kernel_rfl) rfl

theorem KB {n : Nat} {seen : List Nat} (hn : seen.Nodup) (h : ∀ j ∈ seen, j < n) : seen.length ≤ n := by
 have h1 : seen.Perm ((List.range n).filter fun j => decide (j ∈ seen)) := (List.perm_ext_iff_of_nodup hn (List.nodup_range.filter _)).2 fun j => by
  rw [List.mem_filter, List.mem_range, decide_eq_true_eq]
  exact ⟨fun hj => ⟨h j hj, hj⟩, fun hj => hj.2⟩
 rw [h1.length_eq]
 exact Nat.le_trans (List.length_filter_le _ _) (Nat.le_of_eq List.length_range)

theorem PZ {ds : List Nat} (hds : ∀ d ∈ ds, d < 1000) {x : Option AJ} (hb : ∀ b, x = some b → b.high = true) : x.map (AJ.purge ds) = x := by
 cases h : x with
 | none => rfl
 | some b => rw [Option.map_some, AJ.purge_high hds (hb b h)]
theorem O3 {S S1 : AA} {a0 : Nat} {b : AJ} (hS : Ay S) (ha : 1000 ≤ a0) (h1 : S1 a0 = some b) (h2 : ∀ i, 1000 ≤ i → i ≠ a0 → S1 i = S i) : Gk S1 = AP S a0 (some b) := by
 funext i
 show (if i < 1000 then none else S1 i) = _
 by_cases e : i = a0
 ·subst e
  rw [if_neg (by omega), AF, h1]
 ·rw [AZ _ e]
  by_cases hi : i < 1000
  ·rw [if_pos hi, Bq hS hi]
  ·rw [if_neg hi, h2 i (by omega) e]
theorem NU {S S1 : AA} {a0 : Nat} {b : AJ} (hS : Ay S) (hb : b.high = true) (h1 : S1 a0 = some b) (h2 : ∀ i, 1000 ≤ i → i ≠ a0 → S1 i = S i) : ∀ i c, 1000 ≤ i → S1 i = some c → c.high = true := fun i c hi hc => by
 by_cases e : i = a0
 ·subst e
  rw [h1] at hc
  cases hc
  exact hb
 ·rw [h2 i hi e] at hc
  exact (hS i c hc).2
theorem OE {C : Ctx} {rs : List RV} {r : AV} {e : AX} {s : AS} {S : AA} {a0 : Nat} {b : AJ} (r0 : AV) (hS : Ay S) (ha : 1000 ≤ a0) (hb : b.high = true) (he : match e with | .normal => True | .ret => True | _ => False)
  (h1 : (AB s rs).map AI = some r0) (h2 : outV s.S r0 = some r) (h3 : s.S a0 = some b) (h4 : ∀ i, 1000 ≤ i → i ≠ a0 → s.S i = S i) : Mq C rs r (AP S a0 (some b)) e s :=
 Jh he r0 h1 h2 (NU hS hb h3 h4) (O3 hS ha h3 h4) (IC hS ha hb)

def Ka : IR :=
 (.seq (.ops [.i 4 (.alloc 25 [.st (.str (ByteArray.mk (#[]))), .full []]), .i 5 (.mov (.c (.one (.st (.bool false)))))]) (.seq (.seq (.ops [.i 6 (.mov (.n 0))]) (.block 0 (.loop (.seq (.seq (.ops [.m 7 6, .m 8 0, .i 9 (.len false (.t 8)), .i 10 (.bin .lss (.t 7) (.t 9))]) (.cond (.t 10) .skip (.exit 0))) (.seq (.block 1 (.seq (.ops [.m 13 0, .m 14 6, .i 15 (.indexAddr 3 (.t 13) (.t 14)), .f 16 0 15, .l 17 16, .m 18 1, .i 19 (.bin .eql (.t 17) (.t 18))]) (.cond (.t 19) (.seq (.ops [.m 20 0, .m 21 6, .i 22 (.indexAddr 3 (.t 20) (.t 21)), .f 23 1 22, .L 24 2 23, .s 2 4 24, .i 5 (.mov (.c (.one (.st (.bool true)))))]) .ret) .skip))) (.ops [.m 11 6, .i 12 (.bin .add (.t 11) (.n 1)), .m 6 12])))))) (.seq (.ops [.i 25 (.build [.st (.str (ByteArray.mk (#[]))), .full []] []), .s 2 4 25, .i 5 (.mov (.c (.one (.st (.bool false)))))]) .ret)))
theorem N7 : OkF Try.prog 24 26 [] Ka [.cell 4 true 2, .t 5] := .of Try.func24 rfl rfl (by kernel_rfl) rfl
def FD : IR :=
 (.seq (.ops [.i 4 (.box 25 (.t 1)), .i 6 (.mov (.n 0))]) (.seq (.ops [.m 12 0, .f 13 0 4, .l 14 13, .i 15 (.call 24 [.t 12, .t 14]), .m 11 15, .i 16 (.extract 0 (.t 11)), .i 17 (.extract 1 (.t 11)), .i 7 (.alloc 25 [.st (.str (ByteArray.mk (#[]))), .full []]), .s 2 7 16, .m 8 17]) (.seq (.seq (.ops [.m 18 8, .m 19 18, .mk (some 20) (some (19, true)) (.fieldAddr 1 (.t 4)) .no, .mk (some 21) (some (19, true)) (.load false 1 (.t 20)) .no, .mk (some 22) (some (19, true)) (.len false (.t 21)) .no, .mk (some 23) (some (19, true)) (.bin .eql (.t 22) (.n 0)) .no, .i 24 (.pick (.t 19) (.t 23) (.c (.one (.st (.bool false)))))]) (.cond (.t 24) (.seq (.ops [.L 25 2 7, .m 26 2, .i 27 (.call 17 [.t 25, .t 26]), .m 6 27]) .ret) .skip)) (.seq (.ops [.i 9 (.mov (.n 1))]) (.seq (.seq (.ops [.i 10 (.mov (.n 0))]) (.block 0 (.loop (.seq (.seq (.ops [.m 28 10, .f 29 1 4, .l 30 29, .i 31 (.len false (.t 30)), .i 32 (.bin .lss (.t 28) (.t 31)), .m 33 32, .mk (some 34) (some (33, true)) (.mov (.t 9)) .no, .mk (some 35) (some (33, true)) (.mov (.t 2)) .no, .mk (some 36) (some (33, true)) (.bin .leq (.t 34) (.t 35)) .no, .i 37 (.pick (.t 33) (.t 36) (.c (.one (.st (.bool false)))))]) (.cond (.t 37) .skip (.exit 0))) (.seq (.block 1 (.ops [.m 40 9, .m 41 0, .f 42 1 4, .l 43 42, .m 44 10, .i 45 (.indexAddr 2 (.t 43) (.t 44)), .L 46 2 45, .m 47 2, .m 48 9, .i 49 (.bin .sub (.t 47) (.t 48)), .i 50 (.call 11 [.t 41, .t 46, .t 49]), .i 51 (.bin .add (.t 40) (.t 50)), .m 9 51])) (.ops [.m 38 10, .i 39 (.bin .add (.t 38) (.n 1)), .m 10 39])))))) (.seq (.seq (.ops [.m 52 9, .m 53 2, .i 54 (.bin .gtr (.t 52) (.t 53))]) (.cond (.t 54) (.seq (.ops [.m 55 2, .i 56 (.bin .add (.t 55) (.n 1)), .m 6 56]) .ret) .skip)) (.seq (.ops [.m 57 9, .m 6 57]) .ret)))))))
theorem HV : OkF Try.prog 11 58 [] FD [.t 6] := .of Try.func11 rfl rfl (by kernel_rfl) rfl
def JU : IR :=
 (.seq (.ops [.i 3 (.box 25 (.t 1)), .i 4 (.alloc 25 [.st (.str (ByteArray.mk (#[]))), .full []])]) (.seq (.ops [.m 10 0, .f 11 0 3, .l 12 11, .i 13 (.call 24 [.t 10, .t 12]), .m 9 13, .i 14 (.extract 0 (.t 9)), .i 15 (.extract 1 (.t 9)), .i 5 (.alloc 25 [.st (.str (ByteArray.mk (#[]))), .full []]), .s 2 5 14, .m 6 15]) (.seq (.seq (.ops [.m 16 6, .m 17 16, .mk (some 18) (some (17, true)) (.fieldAddr 1 (.t 3)) .no, .mk (some 19) (some (17, true)) (.load false 1 (.t 18)) .no, .mk (some 20) (some (17, true)) (.len false (.t 19)) .no, .mk (some 21) (some (17, true)) (.bin .eql (.t 20) (.n 0)) .no, .i 22 (.pick (.t 17) (.t 21) (.c (.one (.st (.bool false)))))]) (.cond (.t 22) (.seq (.ops [.L 23 2 5, .s 2 4 23]) .ret) .skip)) (.seq (.ops [.f 24 0 3, .l 25 24, .i 26 (.build [.st (.str (ByteArray.mk (#[]))), .full []] [(0, 1, .t 25)]), .i 7 (.alloc 25 [.st (.str (ByteArray.mk (#[]))), .full []]), .s 2 7 26]) (.seq (.seq (.ops [.i 8 (.mov (.n 0))]) (.block 0 (.loop (.seq (.seq (.ops [.m 27 8, .f 28 1 3, .l 29 28, .i 30 (.len false (.t 29)), .i 31 (.bin .lss (.t 27) (.t 30))]) (.cond (.t 31) .skip (.exit 0))) (.seq (.block 1 (.ops [.f 34 1 7, .l 35 34, .m 36 0, .f 37 1 3, .l 38 37, .m 39 8, .i 40 (.indexAddr 2 (.t 38) (.t 39)), .L 41 2 40, .i 42 (.call 12 [.t 36, .t 41]), .i 43 (.buildSlice false 25 2 [.t 42]), .i 44 (.append false 25 2 40 (.t 35) (.t 43)), .f 45 1 7, .s 1 45 44])) (.ops [.m 32 8, .i 33 (.bin .add (.t 32) (.n 1)), .m 8 33])))))) (.seq (.ops [.L 46 2 7, .s 2 4 46]) .ret))))))
theorem Lq : OkF Try.prog 12 47 [] JU [.cell 4 true 2] := .of Try.func12 rfl rfl (by kernel_rfl) rfl
def JC : IR :=
 (.seq (.ops [.i 3 (.box 25 (.t 1)), .i 4 (.alloc 25 [.st (.str (ByteArray.mk (#[]))), .full []]), .i 5 (.mov (.c (.one (.st (.bool false)))))]) (.seq (.seq (.ops [.m 6 0, .L 7 2 3, .i 8 (.call 11 [.t 6, .t 7, .n 2000]), .i 9 (.bin .gtr (.t 8) (.n 2000))]) (.cond (.t 9) (.seq (.ops [.i 10 (.build [.st (.str (ByteArray.mk (#[]))), .full []] []), .s 2 4 10, .i 5 (.mov (.c (.one (.st (.bool false)))))]) .ret) .skip)) (.seq (.ops [.m 11 0, .L 12 2 3, .i 13 (.call 12 [.t 11, .t 12]), .s 2 4 13, .i 5 (.mov (.c (.one (.st (.bool true)))))]) .ret)))
theorem Lu : OkF Try.prog 7 14 [] JC [.cell 4 true 2, .t 5] := .of Try.func7 rfl rfl (by kernel_rfl) rfl
def Ca : IR :=
 (.seq (.ops [.i 2 (.mov (.c (.one (.st (.bool false)))))]) (.seq (.ops [.m 3 0, .m 4 0, .i 5 (.bin .neq (.t 3) (.t 4)), .m 2 5]) .ret))
theorem Eg : OkF Try.prog 61 6 [] Ca [.t 2] := .of Try.func61 rfl rfl (by kernel_rfl) rfl
def B9 : IR :=
 (.seq (.ops [.i 4 (.mov (.n 0))]) (.seq (.ops [.m 7 0, .i 8 (.call 61 [.t 7]), .m 5 8]) (.seq (.ops [.m 9 1, .i 10 (.call 61 [.t 9]), .m 6 10]) (.seq (.seq (.ops [.m 11 5]) (.cond (.t 11) (.seq (.seq (.ops [.m 12 6]) (.cond (.t 12) (.seq (.ops [.i 4 (.mov (.n 0))]) .ret) .skip)) (.seq (.ops [.i 4 (.mov (.c (.one (.st (.int .i64 (-1))))))]) .ret)) .skip)) (.seq (.seq (.ops [.m 13 6]) (.cond (.t 13) (.seq (.ops [.i 4 (.mov (.n 1))]) .ret) .skip)) (.seq (.seq (.ops [.m 14 0, .m 15 1, .i 16 (.bin .lss (.t 14) (.t 15))]) (.cond (.t 16) (.seq (.ops [.i 4 (.mov (.c (.one (.st (.int .i64 (-1))))))]) .ret) .skip)) (.seq (.seq (.ops [.m 17 0, .m 18 1, .i 19 (.bin .gtr (.t 17) (.t 18))]) (.cond (.t 19) (.seq (.ops [.i 4 (.mov (.n 1))]) .ret) .skip)) (.seq (.ops [.i 4 (.mov (.n 0))]) .ret))))))))
theorem D4 : OkF Try.prog 56 20 [] B9 [.t 4] := .of Try.func56 rfl rfl (by kernel_rfl) rfl

theorem L8 (l : List Bd) (n : ByteArray) : AQ Try.prog 24 [I1 l, CQ n] (.tup [aTm ((lookup l n).getD Tm.nil), Ag (lookup l n).isSome]) := by
 refine N7.ac fun C hC => ?_
 unfold Ka
 refine IWP.learn 0 (by omega) fun hkn => ?_
 have hkn := Bv hkn
 rw [List.length_map] at hkn
 repeat' with_reducible first | refine W ?_ | refine Z0 ?_ | ((first | refine Wo fun K hK => ?_ | refine Wq ?_ | refine Wr ?_); (try simp only [go_sem, fN, seval, eT, iR]); (repeat refine Ai ?_); (try (refine hK _ ?_; clear hK K)))
 refine IWP.loop (fun m s => ∃ k, k ≤ l.length ∧ m = l.length - k ∧ (∀ c ∈ l.take k, c.1 ≠ n) ∧ s.env 0 = I1 l ∧ s.env 1 = CQ n ∧ s.env 4 = .one (.ptr 4 1 0 0) ∧ s.S 4 = some (.box 25 [.st (.str ⟨#[]⟩), .full []]) ∧ s.env 6 = AR k) l.length ⟨0, Nat.zero_le _, rfl, by simp, rfl, rfl, rfl, rfl, rfl⟩ ?_
 rintro m ⟨env, S⟩ ⟨k, hk, rfl, h0, e0, e1, e4, s4, e6⟩
 simp only at e0 e1 e4 s4 e6
 by_cases hlt : (k : Int) < l.length
 ·obtain ⟨b, hb⟩ := Aj (show k < l.length by omega)
  repeat' with_reducible first | refine W ?_ | refine Z0 ?_ | ((first | refine Wo fun K hK => ?_ | refine Wq ?_ | refine Wr ?_); (try simp only [go_sem, fN, seval, eT, iR, e0, e1, e4, s4, e6, hlt]); (repeat refine Ai ?_); (try (refine hK _ ?_; clear hK K)))
  with_reducible refine Wp ?_
  simp only [go_sem, fN, seval, true_implies, false_implies, implies_true, dT, dF, nL, hlt]
  (try with_reducible refine iC ?_)
  repeat' with_reducible first | refine W ?_ | refine Z0 ?_ | ((first | refine Wo fun K hK => ?_ | refine Wq ?_ | refine Wr ?_); (try simp only [go_sem, fN, seval, eT, iR, e0, e1, e4, s4, e6, hb, Nz]); (repeat refine Ai ?_); (try (refine hK _ ?_; clear hK K)))
  by_cases he : b.1 = n
  ·with_reducible refine Wp ?_
   simp only [go_sem, fN, seval, true_implies, false_implies, implies_true, dT, dF, nL, he]
   (try with_reducible refine iC ?_)
   repeat' with_reducible first | refine W ?_ | refine Z0 ?_ | ((first | refine Wo fun K hK => ?_ | refine Wq ?_ | refine Wr ?_); (try simp only [go_sem, fN, seval, eT, iR, e0, e1, e4, s4, e6, hb, Nz]); (repeat refine Ai ?_); (try (refine hK _ ?_; clear hK K)))
   simp only [go_sem, fN, seval, AM, AS.result, AB, AD, AI, e4]
   rw [KU hb he h0]
   rfl
  ·with_reducible refine Wp ?_
   simp only [go_sem, fN, seval, true_implies, false_implies, implies_true, dT, dF, nL, he]
   (try with_reducible refine iC ?_)
   repeat' with_reducible first | refine W ?_ | refine Z0 ?_ | ((first | refine Wo fun K hK => ?_ | refine Wq ?_ | refine Wr ?_); (try simp only [go_sem, fN, seval, eT, iR, e0, e1, e4, s4, e6]); (repeat refine Ai ?_); (try (refine hK _ ?_; clear hK K)))
   refine AH ⟨l.length - (k + 1), by omega, k + 1, by omega, rfl, ?_, ?_⟩
   ·rw [Aa hb]
    intro c hc
    rcases List.mem_append.1 hc with hc | hc
    ·exact h0 c hc
    ·rw [List.mem_singleton.1 hc]; exact he
   ·simp only [go_sem, fN, seval, eT, iR, e0, e1, e4, s4, e6]
    congr 3
 ·repeat' with_reducible first | refine W ?_ | refine Z0 ?_ | ((first | refine Wo fun K hK => ?_ | refine Wq ?_ | refine Wr ?_); (try simp only [go_sem, fN, seval, eT, iR, e0, e1, e4, s4, e6, hlt]); (repeat refine Ai ?_); (try (refine hK _ ?_; clear hK K)))
  with_reducible refine Wp ?_
  simp only [go_sem, fN, seval, true_implies, false_implies, implies_true, dT, dF, nL, hlt]
  (try with_reducible refine iC ?_)
  repeat' with_reducible first | refine W ?_ | refine Z0 ?_ | ((first | refine Wo fun K hK => ?_ | refine Wq ?_ | refine Wr ?_); (try simp only [go_sem, fN, seval, eT, iR, e0, e1, e4, s4, e6]); (repeat refine Ai ?_); (try (refine hK _ ?_; clear hK K)))
  simp only [go_sem, fN, seval, AM, AS.result, AB, AD, AI, e4]
  rw [List.take_of_length_le (by omega)] at h0
  rw [J_ h0]
  rfl
theorem Lv (a : ByteArray) : AQ Try.prog 61 [CQ a] (Ag false) := by
 refine Eg.ac fun C hC => ?_
 unfold Ca
 repeat' with_reducible first | refine W ?_ | refine Z0 ?_ | ((first | refine Wo fun K hK => ?_ | refine Wq ?_ | refine Wr ?_); (try simp only [go_sem, fN, seval, eT, iR]); (repeat refine Ai ?_); (try (refine hK _ ?_; clear hK K)))
 simp only [go_sem, fN, seval, AM, AS.result, AB, AD, AI]
theorem NL (a b : ByteArray) : AQ Try.prog 56 [CQ a, CQ b] (AR (Fz a b)) := by
 refine D4.ac fun C hC => ?_
 unfold B9
 repeat' (first | (with_reducible first | refine W ?_ | refine Z0 ?_ | ((first | refine Wo fun K hK => ?_ | refine Wq ?_ | refine Wr ?_); (try simp only [go_sem, fN, seval, eT, iR]); (repeat refine Ai ?_); (try (refine hK _ ?_; clear hK K)))) | refine Cg _ (Lv a) ?_ | refine Cg _ (Lv b) ?_)
 with_reducible refine Wp ?_
 simp only [go_sem, fN, seval, true_implies, false_implies, implies_true, dT, dF, nL]
 (try with_reducible refine iC ?_)
 repeat' with_reducible first | refine W ?_ | refine Z0 ?_ | ((first | refine Wo fun K hK => ?_ | refine Wq ?_ | refine Wr ?_); (try simp only [go_sem, fN, seval, eT, iR]); (repeat refine Ai ?_); (try (refine hK _ ?_; clear hK K)))
 with_reducible refine Wp ?_
 simp only [go_sem, fN, seval, true_implies, false_implies, implies_true, dT, dF, nL]
 (try with_reducible refine iC ?_)
 repeat' with_reducible first | refine W ?_ | refine Z0 ?_ | ((first | refine Wo fun K hK => ?_ | refine Wq ?_ | refine Wr ?_); (try simp only [go_sem, fN, seval, eT, iR]); (repeat refine Ai ?_); (try (refine hK _ ?_; clear hK K)))
 unfold Fz
 cases h : sLt a b with
 | true =>
  with_reducible refine Wp ?_
  simp only [go_sem, fN, seval, true_implies, false_implies, implies_true, dT, dF, nL]
  (try with_reducible refine iC ?_)
  repeat' with_reducible first | refine W ?_ | refine Z0 ?_ | ((first | refine Wo fun K hK => ?_ | refine Wq ?_ | refine Wr ?_); (try simp only [go_sem, fN, seval, eT, iR]); (repeat refine Ai ?_); (try (refine hK _ ?_; clear hK K)))
  simp only [go_sem, fN, seval, AM, AS.result, AB, AD, AI]
 | false =>
  with_reducible refine Wp ?_
  simp only [go_sem, fN, seval, true_implies, false_implies, implies_true, dT, dF, nL]
  (try with_reducible refine iC ?_)
  by_cases he : a = b
  ·repeat' with_reducible first | refine W ?_ | refine Z0 ?_ | ((first | refine Wo fun K hK => ?_ | refine Wq ?_ | refine Wr ?_); (try simp only [go_sem, fN, seval, eT, iR, h, he, Bool.or_true, Bool.or_false]); (repeat refine Ai ?_); (try (refine hK _ ?_; clear hK K)))
   with_reducible refine Wp ?_
   simp only [go_sem, fN, seval, true_implies, false_implies, implies_true, dT, dF, nL, h, he, Bool.or_true, Bool.or_false]
   (try with_reducible refine iC ?_)
   repeat' with_reducible first | refine W ?_ | refine Z0 ?_ | ((first | refine Wo fun K hK => ?_ | refine Wq ?_ | refine Wr ?_); (try simp only [go_sem, fN, seval, eT, iR]); (repeat refine Ai ?_); (try (refine hK _ ?_; clear hK K)))
   simp only [go_sem, fN, seval, AM, AS.result, AB, AD, AI, h, he]
  ·repeat' with_reducible first | refine W ?_ | refine Z0 ?_ | ((first | refine Wo fun K hK => ?_ | refine Wq ?_ | refine Wr ?_); (try simp only [go_sem, fN, seval, eT, iR, h, he, Bool.or_true, Bool.or_false]); (repeat refine Ai ?_); (try (refine hK _ ?_; clear hK K)))
   with_reducible refine Wp ?_
   simp only [go_sem, fN, seval, true_implies, false_implies, implies_true, dT, dF, nL, h, he, Bool.or_true, Bool.or_false]
   (try with_reducible refine iC ?_)
   repeat' with_reducible first | refine W ?_ | refine Z0 ?_ | ((first | refine Wo fun K hK => ?_ | refine Wq ?_ | refine Wr ?_); (try simp only [go_sem, fN, seval, eT, iR]); (repeat refine Ai ?_); (try (refine hK _ ?_; clear hK K)))
   simp only [go_sem, fN, seval, AM, AS.result, AB, AD, AI, h, he]

def AT : IR :=
 (.seq (.ops [.i 6 (.mov (.c (.one (.st (.bool false)))))]) (.seq (.seq (.ops [.m 10 0, .i 11 (.len false (.t 10)), .m 12 1, .i 13 (.len false (.t 12)), .i 14 (.bin .neq (.t 11) (.t 13))]) (.cond (.t 14) (.seq (.ops [.i 6 (.mov (.c (.one (.st (.bool false)))))]) .ret) .skip)) (.seq (.seq (.ops [.m 15 0, .i 16 (.len false (.t 15)), .i 17 (.mov (.n 0))]) (.block 0 (.loop (.seq (.ops [.i 18 (.bin .lss (.t 17) (.t 16))]) (.seq (.cond (.t 18) .skip (.exit 0)) (.seq (.block 1 (.seq (.ops [.m 19 17, .i 20 (.indexAddr 2 (.t 15) (.t 17)), .L 21 2 20, .i 8 (.alloc 25 [.st (.str (ByteArray.mk (#[]))), .full []]), .m 7 19, .s 2 8 21]) (.seq (.ops [.m 22 1, .m 23 7, .i 24 (.indexAddr 2 (.t 22) (.t 23)), .L 25 2 24, .i 9 (.alloc 25 [.st (.str (ByteArray.mk (#[]))), .full []]), .s 2 9 25]) (.seq (.ops [.m 26 2, .L 27 2 8, .L 28 2 9, .i 29 (.callV (.t 26) [.t 27, .t 28]), .i 30 (.un .not (.t 29))]) (.cond (.t 30) (.seq (.ops [.i 6 (.mov (.c (.one (.st (.bool false)))))]) .ret) .skip))))) (.ops [.i 31 (.bin .add (.t 17) (.n 1)), .m 17 31]))))))) (.seq (.ops [.i 6 (.mov (.c (.one (.st (.bool true)))))]) .ret))))
theorem Ad : OkF Try.prog 57 32 [] AT [.t 6] := .of Try.func57 rfl rfl (by kernel_rfl) rfl
def Fa : IR :=
 (.seq (.ops [.i 2 (.box 25 (.t 0)), .i 3 (.box 25 (.t 1)), .i 4 (.mov (.c (.one (.st (.bool false)))))]) (.seq (.ops [.f 5 0 2, .l 6 5, .f 7 0 3, .l 8 7, .i 9 (.bin .eql (.t 6) (.t 8)), .m 10 9, .mk (some 11) (some (10, true)) (.fieldAddr 1 (.t 2)) .no, .mk (some 12) (some (10, true)) (.load false 1 (.t 11)) .no, .mk (some 13) (some (10, true)) (.fieldAddr 1 (.t 3)) .no, .mk (some 14) (some (10, true)) (.load false 1 (.t 13)) .no, .mk (some 15) (some (10, true)) (.call 57 [.t 12, .t 14, .c (.one (.fn 49 []))]) .no, .i 16 (.pick (.t 10) (.t 15) (.c (.one (.st (.bool false))))), .m 4 16]) .ret))
theorem JP : OkF Try.prog 49 17 [] Fa [.t 4] := .of Try.func49 rfl rfl (by kernel_rfl) rfl

theorem Tm.beqL_no {xs ys : List Tm} (h : xs ≠ ys) : Tm.beqL xs ys = false := by
 rw [← Bool.not_eq_true, Tm.beqL_iff]
 exact h
theorem KJ (xs ys : List Tm) (ih : ∀ x ∈ xs, ∀ y, AQ Try.prog 49 [aTm x, aTm y] (Ag (x.beq y))) :
  AQ Try.prog 57 [DD xs, DD ys, .one (.fn 49 [])] (Ag (Tm.beqL xs ys)) := by
 have hplain : Bp Try.prog 49 = true := by kernel_rfl
 refine Ad.ac fun C hC => ?_
 unfold AT
 refine IWP.learn 0 (by omega) fun hkn => ?_
 have hkx := Bv hkn
 rw [List.length_map] at hkx
 by_cases hl : xs.length = ys.length
 ·have hl' : (xs.length : Int) = ys.length := by omega
  repeat' with_reducible first | refine W ?_ | refine Z0 ?_ | ((first | refine Wo fun K hK => ?_ | refine Wp ?_ | refine Wq ?_ | refine Wr ?_); (try simp only [go_sem, fN, seval, eT, iR, hl', dT, dF, nL]); (repeat refine Ai ?_); (try (refine hK _ ?_; clear hK K)); try refine iC ?_)
  refine IWP.loopD [8, 9] (fun n s => ∃ k, k ≤ xs.length ∧ n = xs.length - k ∧ xs.take k = ys.take k ∧ s.env 1 = DD ys ∧ s.env 2 = .one (.fn 49 []) ∧ s.env 15 = DD xs ∧ s.env 16 = AR xs.length ∧ s.env 17 = AR k ∧ s.S 8 = none ∧ s.S 9 = none) xs.length ⟨0, Nat.zero_le _, rfl, rfl, rfl, rfl, rfl, by simp only [go_sem, fN, seval, eT, iR, hl'], rfl, rfl, rfl⟩ ?_
  rintro n ⟨env, S⟩ ⟨k, hk, rfl, h0, e1, e2, e15, e16, e17, s8, s9⟩
  simp only at e1 e2 e15 e16 e17 s8 s9
  by_cases hlt : (k : Int) < xs.length
  ·obtain ⟨x, hx⟩ := Aj (show k < xs.length by omega)
   obtain ⟨y, hy⟩ := Aj (show k < ys.length by omega)
   repeat' with_reducible first | refine W ?_ | refine Z0 ?_ | ((first | refine Wo fun K hK => ?_ | refine Wp ?_ | refine Wq ?_ | refine Wr ?_); (try simp only [go_sem, fN, seval, eT, iR, e1, e2, e15, e16, e17, s8, s9, hlt, hx, hy, hplain, dT, dF, nL]); (repeat refine Ai ?_); (try (refine hK _ ?_; clear hK K)); try refine iC ?_)
   refine ⟨_, _, (ih x (Ae hx) y).toS rfl, ?_⟩
   cases hxy : x.beq y with
   | false =>
    repeat' with_reducible first | refine W ?_ | refine Z0 ?_ | ((first | refine Wo fun K hK => ?_ | refine Wp ?_ | refine Wq ?_ | refine Wr ?_); (try simp only [go_sem, fN, seval, eT, iR, hxy, dT, dF, nL]); (repeat refine Ai ?_); (try (refine hK _ ?_; clear hK K)); try refine iC ?_)
    simp only [go_sem, fN, seval, AM, AS.result, AB, AD, AI]
    rw [Tm.beqL_no fun e => by
     subst e
     rw [hx] at hy
     cases hy
     rw [Tm.beq_refl] at hxy
     cases hxy]
   | true =>
    have hxy' := (Tm.beq_iff x y).1 hxy
    repeat' with_reducible first | refine W ?_ | refine Z0 ?_ | ((first | refine Wo fun K hK => ?_ | refine Wp ?_ | refine Wq ?_ | refine Wr ?_); (try simp only [go_sem, fN, seval, eT, iR, hxy, e1, e2, e15, e16, e17, s8, s9, dT, dF, nL]); (repeat refine Ai ?_); (try (refine hK _ ?_; clear hK K)); try refine iC ?_)
    refine AH ⟨xs.length - (k + 1), by omega, k + 1, by omega, rfl, ?_, ?_⟩
    ·rw [Aa hx, Aa hy, h0, hxy']
    ·simp only [go_sem, fN, seval, AS.drop, Bc, AC.clears, AC.clear, AC.highs, AC.high, Bool.not_false, Bool.true_and, Bool.and_self, AV.purge, AV.purges, AC.purge, AJ.purge, List.contains_cons, List.contains_nil, Nat.reduceBEq, Bool.or_self, Bool.or_false, Bool.false_or, Bool.or_true, eT, iR, e1, e2, e15, e16, e17, s8, s9]
     congr 3
  ·repeat' with_reducible first | refine W ?_ | refine Z0 ?_ | ((first | refine Wo fun K hK => ?_ | refine Wp ?_ | refine Wq ?_ | refine Wr ?_); (try simp only [go_sem, fN, seval, eT, iR, e1, e2, e15, e16, e17, hlt, dT, dF, nL]); (repeat refine Ai ?_); (try (refine hK _ ?_; clear hK K)); try refine iC ?_)
   simp only [go_sem, fN, seval, AM, AS.result, AB, AD, AI]
   rw [List.take_of_length_le (by omega), List.take_of_length_le (by omega)] at h0
   rw [(Tm.beqL_iff xs ys).2 h0]
 ·have hl' : ¬ (xs.length : Int) = ys.length := by omega
  repeat' with_reducible first | refine W ?_ | refine Z0 ?_ | ((first | refine Wo fun K hK => ?_ | refine Wp ?_ | refine Wq ?_ | refine Wr ?_); (try simp only [go_sem, fN, seval, eT, iR, hl', dT, dF, nL]); (repeat refine Ai ?_); (try (refine hK _ ?_; clear hK K)); try refine iC ?_)
  simp only [go_sem, fN, seval, AM, AS.result, AB, AD, AI]
  rw [Tm.beqL_no fun e => hl (by rw [e])]
theorem G1 (a b : Tm) : AQ Try.prog 49 [aTm a, aTm b] (Ag (a.beq b)) := by
 induction h : SizeOf.sizeOf a using Nat.strongRecOn generalizing a b with
 | _ N ih =>
 subst h
 have hE := KJ a.args b.args fun x hx y => ih _ (Tm.lt_of_arg hx) x y rfl
 have he : a.beq b = (decide (a.name = b.name) && Tm.beqL a.args b.args) := by cases a; cases b; rfl
 refine JP.ac fun C hC => ?_
 unfold Fa
 by_cases hn : a.name = b.name
 ·repeat' (first | (with_reducible first | refine W ?_ | refine Z0 ?_ | ((first | refine Wo fun K hK => ?_ | refine Wp ?_ | refine Wq ?_ | refine Wr ?_); (try simp only [go_sem, fN, seval, eT, iR, hn, dT, dF, nL]); (repeat refine Ai ?_); (try (refine hK _ ?_; clear hK K)); try refine iC ?_)) | refine Cg _ (hE) ?_)
  simp only [go_sem, fN, seval, AM, AS.result, AB, AD, AI]
  rw [he, decide_eq_true hn]
  rfl
 ·repeat' with_reducible first | refine W ?_ | refine Z0 ?_ | ((first | refine Wo fun K hK => ?_ | refine Wp ?_ | refine Wq ?_ | refine Wr ?_); (try simp only [go_sem, fN, seval, eT, iR, hn, dT, dF, nL]); (repeat refine Ai ?_); (try (refine hK _ ?_; clear hK K)); try refine iC ?_)
  simp only [go_sem, fN, seval, AM, AS.result, AB, AD, AI]
  rw [he, decide_eq_false hn]
  rfl

def Fc : IR :=
 (.seq (.ops [.i 1 (.box 25 (.t 0)), .i 2 (.mov (.n 0))]) (.seq (.ops [.i 3 (.mov (.n 1))]) (.seq (.seq (.ops [.f 6 1 1, .l 7 6, .i 8 (.len false (.t 7)), .i 9 (.mov (.n 0))]) (.block 0 (.loop (.seq (.ops [.i 10 (.bin .lss (.t 9) (.t 8))]) (.seq (.cond (.t 10) .skip (.exit 0)) (.seq (.block 1 (.seq (.ops [.i 11 (.indexAddr 2 (.t 7) (.t 9)), .L 12 2 11, .i 5 (.alloc 25 [.st (.str (ByteArray.mk (#[]))), .full []]), .s 2 5 12]) (.ops [.m 13 3, .L 14 2 5, .i 15 (.call 47 [.t 14]), .i 16 (.bin .add (.t 13) (.t 15)), .m 3 16]))) (.ops [.i 17 (.bin .add (.t 9) (.n 1)), .m 9 17]))))))) (.seq (.ops [.m 18 3, .m 2 18]) .ret))))
theorem JH : OkF Try.prog 47 19 [] Fc [.t 2] := .of Try.func47 rfl rfl (by kernel_rfl) rfl

theorem CM (t : Tm) (hz : t.size ≤ 1000000) : AQ Try.prog 47 [aTm t] (AR t.size) := by
 induction h : SizeOf.sizeOf t using Nat.strongRecOn generalizing t with
 | _ N ih =>
 subst h
 have hs := Tm.size_eq t
 have hln := Tm.length_le t.args
 refine JH.ac fun C hC => ?_
 unfold Fc
 repeat' with_reducible first | refine W ?_ | refine Z0 ?_ | ((first | refine Wo fun K hK => ?_ | refine Wp ?_ | refine Wq ?_ | refine Wr ?_); (try simp only [go_sem, fN, seval, eT, iR, dT, dF, nL]); (repeat refine Ai ?_); (try (refine hK _ ?_; clear hK K)); try refine iC ?_)
 refine IWP.loopD [5] (fun m s => ∃ k, k ≤ t.args.length ∧ m = t.args.length - k ∧ s.env 3 = AR ((1 + Tm.sizes (t.args.take k) : Nat) : Int) ∧ s.env 7 = DD t.args ∧ s.env 8 = AR t.args.length ∧ s.env 9 = AR k ∧ s.S 5 = none) t.args.length ⟨0, Nat.zero_le _, rfl, rfl, rfl, rfl, rfl, rfl⟩ ?_
 rintro m ⟨env, S⟩ ⟨k, hk, rfl, e3, e7, e8, e9, s5⟩
 simp only at e3 e7 e8 e9 s5
 by_cases hlt : (k : Int) < t.args.length
 ·obtain ⟨a, ha⟩ := Aj (show k < t.args.length by omega)
  have h1 := Tm.sizes_take ha
  have h2 := Tm.sizes_take_le t.args (k + 1)
  repeat' (first | (with_reducible first | refine W ?_ | refine Z0 ?_ | ((first | refine Wo fun K hK => ?_ | refine Wp ?_ | refine Wq ?_ | refine Wr ?_); (try simp only [go_sem, fN, seval, eT, iR, e3, e7, e8, e9, s5, hlt, ha, dT, dF, nL]); (repeat refine Ai ?_); (try (refine hK _ ?_; clear hK K)); try refine iC ?_)) | refine Cg _ (ih _ (Tm.lt_of_arg (Ae ha)) a (by omega) rfl) ?_)
  refine AH ⟨t.args.length - (k + 1), by omega, k + 1, by omega, rfl, ?_⟩
  simp only [go_sem, fN, seval, AS.drop, Bc, AC.clears, AC.clear, AC.highs, AC.high, Bool.not_false, Bool.true_and, Bool.and_self, AV.purge, AV.purges, AC.purge, AJ.purge, List.contains_cons, List.contains_nil, Nat.reduceBEq, Bool.or_self, Bool.or_false, Bool.false_or, Bool.or_true, eT, iR, e3, e7, e8, e9, s5]
  exact ⟨by rw [h1]; congr 3; omega, by congr 3⟩
 ·repeat' with_reducible first | refine W ?_ | refine Z0 ?_ | ((first | refine Wo fun K hK => ?_ | refine Wp ?_ | refine Wq ?_ | refine Wr ?_); (try simp only [go_sem, fN, seval, eT, iR, e3, e7, e8, e9, hlt, dT, dF, nL]); (repeat refine Ai ?_); (try (refine hK _ ?_; clear hK K)); try refine iC ?_)
  simp only [go_sem, fN, seval, AM, AS.result, AB, AD, AI]
  rw [List.take_of_length_le (by omega), hs]

theorem Jq (l : List ByteArray) (x : ByteArray) : AQ Try.prog 51 [At l, CQ x] (AR (A5 l x)) := by
 refine CD.ac fun C hC => ?_
 unfold BP
 refine IWP.learn 0 (by omega) fun hkn => ?_
 have hkn := Bv hkn
 rw [List.length_map] at hkn
 repeat' with_reducible first | refine W ?_ | refine Z0 ?_ | ((first | refine Wo fun K hK => ?_ | refine Wp ?_ | refine Wq ?_ | refine Wr ?_); (try simp only [go_sem, fN, seval, eT, iR, dT, dF, nL]); (repeat refine Ai ?_); (try (refine hK _ ?_; clear hK K)); try refine iC ?_)
 refine IWP.loop (fun n s => ∃ k, k ≤ l.length ∧ n = l.length - k ∧ A5 l x = EP (l.drop k) x k ∧ s.env 0 = At l ∧ s.env 1 = CQ x ∧ s.env 7 = AR l.length ∧ s.env 8 = AR k) l.length ⟨0, Nat.zero_le _, rfl, rfl, rfl, rfl, rfl, rfl⟩ ?_
 rintro n ⟨env, S⟩ ⟨k, hk, rfl, hr, e0, e1, e7, e8⟩
 simp only at e0 e1 e7 e8
 by_cases hlt : (k : Int) < l.length
 ·obtain ⟨a, ha⟩ := Aj (show k < l.length by omega)
  rw [BT ha, EP] at hr
  by_cases he : x = a
  ·subst he
   rw [if_pos rfl] at hr
   repeat' with_reducible first | refine W ?_ | refine Z0 ?_ | ((first | refine Wo fun K hK => ?_ | refine Wp ?_ | refine Wq ?_ | refine Wr ?_); (try simp only [go_sem, fN, seval, eT, iR, e0, e1, e7, e8, hlt, ha, dT, dF, nL]); (repeat refine Ai ?_); (try (refine hK _ ?_; clear hK K)); try refine iC ?_)
   simp only [go_sem, fN, seval, AM, AS.result, AB, AD, AI]
   rw [hr]
  ·rw [if_neg fun e => he e.symm] at hr
   repeat' with_reducible first | refine W ?_ | refine Z0 ?_ | ((first | refine Wo fun K hK => ?_ | refine Wp ?_ | refine Wq ?_ | refine Wr ?_); (try simp only [go_sem, fN, seval, eT, iR, e0, e1, e7, e8, hlt, ha, he, dT, dF, nL]); (repeat refine Ai ?_); (try (refine hK _ ?_; clear hK K)); try refine iC ?_)
   refine AH ⟨l.length - (k + 1), by omega, k + 1, by omega, rfl, by rw [hr]; rfl, ?_⟩
   simp only [go_sem, fN, seval, eT, iR, e0, e1, e7, e8]
   congr 3
 ·rw [List.drop_of_length_le (by omega), EP] at hr
  repeat' with_reducible first | refine W ?_ | refine Z0 ?_ | ((first | refine Wo fun K hK => ?_ | refine Wp ?_ | refine Wq ?_ | refine Wr ?_); (try simp only [go_sem, fN, seval, eT, iR, e0, e1, e7, e8, hlt, dT, dF, nL]); (repeat refine Ai ?_); (try (refine hK _ ?_; clear hK K)); try refine iC ?_)
  simp only [go_sem, fN, seval, AM, AS.result, AB, AD, AI]
  rw [hr]
theorem DL (x : Int) : AQ Try.prog 60 [AR x] (Ag false) := by
 refine Fr.ac fun C hC => ?_
 unfold DP
 repeat' with_reducible first | refine W ?_ | refine Z0 ?_ | ((first | refine Wo fun K hK => ?_ | refine Wp ?_ | refine Wq ?_ | refine Wr ?_); (try simp only [go_sem, fN, seval, eT, iR, dT, dF, nL]); (repeat refine Ai ?_); (try (refine hK _ ?_; clear hK K)); try refine iC ?_)
 simp only [go_sem, fN, seval, AM, AS.result, AB, AD, AI]
theorem LK (x y : Int) : AQ Try.prog 55 [AR x, AR y] (AR (DF x y)) := by
 refine E2.ac fun C hC => ?_
 unfold C0
 rcases Int.lt_trichotomy x y with h | h | h
 ·have hc : DF x y = -1 := by unfold DF; rw [if_pos h]
  rw [hc]
  repeat' (first | (with_reducible first | refine W ?_ | refine Z0 ?_ | ((first | refine Wo fun K hK => ?_ | refine Wp ?_ | refine Wq ?_ | refine Wr ?_); (try simp only [go_sem, fN, seval, eT, iR, h, dT, dF, nL]); (repeat refine Ai ?_); (try (refine hK _ ?_; clear hK K)); try refine iC ?_)) | refine Cg _ (DL x) ?_ | refine Cg _ (DL y) ?_)
  simp only [go_sem, fN, seval, AM, AS.result, AB, AD, AI]
 ·have hc : DF x y = 0 := DJ.2 h
  have h1 : ¬ y < y := by omega
  rw [hc]
  repeat' (first | (with_reducible first | refine W ?_ | refine Z0 ?_ | ((first | refine Wo fun K hK => ?_ | refine Wp ?_ | refine Wq ?_ | refine Wr ?_); (try simp only [go_sem, fN, seval, eT, iR, h, h1, dT, dF, nL]); (repeat refine Ai ?_); (try (refine hK _ ?_; clear hK K)); try refine iC ?_)) | refine Cg _ (DL x) ?_ | refine Cg _ (DL y) ?_)
  simp only [go_sem, fN, seval, AM, AS.result, AB, AD, AI]
 ·have hc : DF x y = 1 := by unfold DF; rw [if_neg (by omega), if_pos h]
  have h1 : ¬ x < y := by omega
  rw [hc]
  repeat' (first | (with_reducible first | refine W ?_ | refine Z0 ?_ | ((first | refine Wo fun K hK => ?_ | refine Wp ?_ | refine Wq ?_ | refine Wr ?_); (try simp only [go_sem, fN, seval, eT, iR, h, h1, dT, dF, nL]); (repeat refine Ai ?_); (try (refine hK _ ?_; clear hK K)); try refine iC ?_)) | refine Cg _ (DL x) ?_ | refine Cg _ (DL y) ?_)
  simp only [go_sem, fN, seval, AM, AS.result, AB, AD, AI]
theorem P1 (l : List Int) : AQ Try.prog 54 [DZ l] (AR (C4 l)) := by
 refine Hv.ac fun C hC => ?_
 unfold Ej
 refine IWP.learn 0 (by omega) fun hkn => ?_
 have hkn := Bv hkn
 rw [List.length_map] at hkn
 repeat' with_reducible first | refine W ?_ | refine Z0 ?_ | ((first | refine Wo fun K hK => ?_ | refine Wp ?_ | refine Wq ?_ | refine Wr ?_); (try simp only [go_sem, fN, seval, eT, iR, dT, dF, nL]); (repeat refine Ai ?_); (try (refine hK _ ?_; clear hK K)); try refine iC ?_)
 refine IWP.loop (fun n s => ∃ k, k ≤ l.length ∧ n = l.length - k ∧ C4 l = C4 (l.drop k) ∧ s.env 3 = AR 0 ∧ s.env 6 = DZ l ∧ s.env 7 = AR l.length ∧ s.env 8 = AR k) l.length ⟨0, Nat.zero_le _, rfl, rfl, rfl, rfl, rfl, rfl⟩ ?_
 rintro n ⟨env, S⟩ ⟨k, hk, rfl, hr, e3, e6, e7, e8⟩
 simp only at e3 e6 e7 e8
 by_cases hlt : (k : Int) < l.length
 ·obtain ⟨a, ha⟩ := Aj (show k < l.length by omega)
  rw [BT ha, C4] at hr
  by_cases he : a = 0
  ·rw [if_neg (by omega)] at hr
   repeat' with_reducible first | refine W ?_ | refine Z0 ?_ | ((first | refine Wo fun K hK => ?_ | refine Wp ?_ | refine Wq ?_ | refine Wr ?_); (try simp only [go_sem, fN, seval, eT, iR, e3, e6, e7, e8, hlt, ha, he, dT, dF, nL]); (repeat refine Ai ?_); (try (refine hK _ ?_; clear hK K)); try refine iC ?_)
   refine AH ⟨l.length - (k + 1), by omega, k + 1, by omega, rfl, hr, ?_⟩
   simp only [go_sem, fN, seval, eT, iR, e3, e6, e7, e8]
   congr 3
  ·rw [if_pos he] at hr
   repeat' with_reducible first | refine W ?_ | refine Z0 ?_ | ((first | refine Wo fun K hK => ?_ | refine Wp ?_ | refine Wq ?_ | refine Wr ?_); (try simp only [go_sem, fN, seval, eT, iR, e3, e6, e7, e8, hlt, ha, he, dT, dF, nL]); (repeat refine Ai ?_); (try (refine hK _ ?_; clear hK K)); try refine iC ?_)
   simp only [go_sem, fN, seval, AM, AS.result, AB, AD, AI]
   rw [hr]
 ·rw [List.drop_of_length_le (by omega), C4] at hr
  repeat' with_reducible first | refine W ?_ | refine Z0 ?_ | ((first | refine Wo fun K hK => ?_ | refine Wp ?_ | refine Wq ?_ | refine Wr ?_); (try simp only [go_sem, fN, seval, eT, iR, e3, e6, e7, e8, hlt, dT, dF, nL]); (repeat refine Ai ?_); (try (refine hK _ ?_; clear hK K)); try refine iC ?_)
  simp only [go_sem, fN, seval, AM, AS.result, AB, AD, AI]
  rw [hr]
theorem F6 (row : List ByteArray) (a b : Tm) : AQ Try.prog 48 [At row, aTm a, aTm b] (AR (Aw row a b)) := by
 have h := Kx row a b
 have ho := P1 [DF (A5 row a.name) (A5 row b.name), Fz a.name b.name, DF a.args.length b.args.length]
 rw [← h] at ho
 refine Fq.ac fun C hC => ?_
 unfold DK
 repeat' (first | (with_reducible first | refine W ?_ | refine Z0 ?_ | ((first | refine Wo fun K hK => ?_ | refine Wp ?_ | refine Wq ?_ | refine Wr ?_); (try simp only [go_sem, fN, seval, eT, iR, dT, dF, nL]); (repeat refine Ai ?_); (try (refine hK _ ?_; clear hK K)); try refine iC ?_)) | refine Cg _ (Jq row a.name) ?_ | refine Cg _ (Jq row b.name) ?_ | refine Cg _ (LK _ _) ?_ | refine Cg _ (NL a.name b.name) ?_ | refine Cg _ (ho) ?_)
 simp only [go_sem, fN, seval, AM, AS.result, AB, AD, AI]
theorem E4 (row : List ByteArray) : AQ Try.prog 22 [At row] (AR (BU row)) := by
 refine HA.ac fun C hC => ?_
 unfold D_
 by_cases h40 : 40 < row.length
 ·have h40' : (40 : Int) < row.length := by omega
  repeat' with_reducible first | refine W ?_ | refine Z0 ?_ | ((first | refine Wo fun K hK => ?_ | refine Wp ?_ | refine Wq ?_ | refine Wr ?_); (try simp only [go_sem, fN, seval, eT, iR, h40', dT, dF, nL]); (repeat refine Ai ?_); (try (refine hK _ ?_; clear hK K)); try refine iC ?_)
  simp only [go_sem, fN, seval, AM, AS.result, AB, AD, AI]
  unfold BU
  rw [if_pos h40]
 ·have h40' : ¬ (40 : Int) < row.length := by omega
  have hm : BU row = Es [] row := by unfold BU; rw [if_neg h40]
  repeat' with_reducible first | refine W ?_ | refine Z0 ?_ | ((first | refine Wo fun K hK => ?_ | refine Wp ?_ | refine Wq ?_ | refine Wr ?_); (try simp only [go_sem, fN, seval, eT, iR, h40', dT, dF, nL]); (repeat refine Ai ?_); (try (refine hK _ ?_; clear hK K)); try refine iC ?_)
  refine IWP.loop (fun n s => ∃ k, k ≤ row.length ∧ n = row.length - k ∧ BU row = Es (row.take k) (row.drop k) ∧ s.env 0 = At row ∧ s.env 8 = At row ∧ s.env 9 = AR row.length ∧ s.env 10 = AR k) row.length ⟨0, Nat.zero_le _, rfl, hm, rfl, rfl, rfl, rfl⟩ ?_
  rintro n ⟨env, S⟩ ⟨k, hk, rfl, hr, e0, e8, e9, e10⟩
  simp only at e0 e8 e9 e10
  by_cases hlt : (k : Int) < row.length
  ·obtain ⟨a, ha⟩ := Aj (show k < row.length by omega)
   rw [BT ha, Es] at hr
   have htk : (row.map FV).take k = (row.take k).map FV := (List.map_take).symm
   have hw1 : ∀ x ∈ row.map FV, x.length = 1 := Fu
   repeat' with_reducible first | refine W ?_ | refine Z0 ?_ | ((first | refine Wo fun K hK => ?_ | refine Wp ?_ | refine Wq ?_ | refine Wr ?_); (try simp only [go_sem, fN, seval, eT, iR, e0, e8, e9, e10, hlt, ha, dT, dF, nL]); (repeat refine Ai ?_); (try (refine hK _ ?_; clear hK K)); try refine iC ?_)
   refine ⟨_, Oc a, ?_⟩
   cases h1 : A0 a with
   | false =>
    rw [if_neg (by rw [h1]; simp)] at hr
    repeat' with_reducible first | refine W ?_ | refine Z0 ?_ | ((first | refine Wo fun K hK => ?_ | refine Wp ?_ | refine Wq ?_ | refine Wr ?_); (try simp only [go_sem, fN, seval, eT, iR, h1, e0, e8, e9, e10, dT, dF, nL]); (repeat refine Ai ?_); (try (refine hK _ ?_; clear hK K)); try refine iC ?_)
    simp only [go_sem, fN, seval, AM, AS.result, AB, AD, AI]
    rw [hr]
   | true =>
    repeat' with_reducible first | refine W ?_ | refine Z0 ?_ | ((first | refine Wo fun K hK => ?_ | refine Wp ?_ | refine Wq ?_ | refine Wr ?_); (try simp only [go_sem, fN, seval, eT, iR, h1, e0, e8, e9, e10, dT, dF, nL]); (repeat refine Ai ?_); (try (refine hK _ ?_; clear hK K)); try refine iC ?_)
    refine ⟨_, A1 a, ?_⟩
    cases h2 : AW a with
    | true =>
     rw [if_neg (by rw [h2]; simp)] at hr
     repeat' with_reducible first | refine W ?_ | refine Z0 ?_ | ((first | refine Wo fun K hK => ?_ | refine Wp ?_ | refine Wq ?_ | refine Wr ?_); (try simp only [go_sem, fN, seval, eT, iR, h1, h2, e0, e8, e9, e10, dT, dF, nL]); (repeat refine Ai ?_); (try (refine hK _ ?_; clear hK K)); try refine iC ?_)
     simp only [go_sem, fN, seval, AM, AS.result, AB, AD, AI]
     rw [hr]
    | false =>
     rw [if_pos ⟨h1, h2⟩] at hr
     repeat' with_reducible first | refine W ?_ | refine Z0 ?_ | ((first | refine Wo fun K hK => ?_ | refine Wp ?_ | refine Wq ?_ | refine Wr ?_); (try simp only [go_sem, fN, seval, eT, iR, h1, h2, e0, e8, e9, e10, dT, dF, nL]); (repeat refine Ai ?_); (try (refine hK _ ?_; clear hK K)); try refine iC ?_)
     have hcon : AQ Try.prog 41 [.one (.st (.list ((row.map FV).take k))), CQ a] (Ag (D3 a (row.take k))) := by
      rw [htk]
      exact LB _ _
     refine ⟨_, hcon, ?_⟩
     cases h3 : D3 a (row.take k) with
     | true =>
      rw [if_pos h3] at hr
      repeat' with_reducible first | refine W ?_ | refine Z0 ?_ | ((first | refine Wo fun K hK => ?_ | refine Wp ?_ | refine Wq ?_ | refine Wr ?_); (try simp only [go_sem, fN, seval, eT, iR, h3, e0, e8, e9, e10, dT, dF, nL]); (repeat refine Ai ?_); (try (refine hK _ ?_; clear hK K)); try refine iC ?_)
      simp only [go_sem, fN, seval, AM, AS.result, AB, AD, AI]
      rw [hr]
     | false =>
      rw [if_neg (by rw [h3]; simp), ← Aa ha] at hr
      repeat' with_reducible first | refine W ?_ | refine Z0 ?_ | ((first | refine Wo fun K hK => ?_ | refine Wp ?_ | refine Wq ?_ | refine Wr ?_); (try simp only [go_sem, fN, seval, eT, iR, h3, e0, e8, e9, e10, dT, dF, nL]); (repeat refine Ai ?_); (try (refine hK _ ?_; clear hK K)); try refine iC ?_)
      refine AH ⟨row.length - (k + 1), by omega, k + 1, by omega, rfl, hr, ?_⟩
      simp only [go_sem, fN, seval, eT, iR, e0, e8, e9, e10]
      congr 3
  ·rw [List.drop_of_length_le (by omega), Es] at hr
   repeat' with_reducible first | refine W ?_ | refine Z0 ?_ | ((first | refine Wo fun K hK => ?_ | refine Wp ?_ | refine Wq ?_ | refine Wr ?_); (try simp only [go_sem, fN, seval, eT, iR, e0, e8, e9, e10, hlt, dT, dF, nL]); (repeat refine Ai ?_); (try (refine hK _ ?_; clear hK K)); try refine iC ?_)
   simp only [go_sem, fN, seval, AM, AS.result, AB, AD, AI]
   rw [hr]
def Bb (row : List ByteArray) (a b : Tm) : Int := if BU row = 0 then Cp a b else BU row
theorem C9 (row : List ByteArray) (a b : Tm) : AQ Try.prog 36 [At row, aTm a, aTm b] (AR (Bb row a b)) := by
 unfold Bb
 refine Hj.ac fun C hC => ?_
 unfold Eu
 by_cases h : BU row = 0
 ·repeat' (first | (with_reducible first | refine W ?_ | refine Z0 ?_ | ((first | refine Wo fun K hK => ?_ | refine Wp ?_ | refine Wq ?_ | refine Wr ?_); (try simp only [go_sem, fN, seval, eT, iR, h, dT, dF, nL]); (repeat refine Ai ?_); (try (refine hK _ ?_; clear hK K)); try refine iC ?_)) | refine Cg _ (E4 row) ?_ | refine Cg _ (Pk a b) ?_)
  simp only [go_sem, fN, seval, AM, AS.result, AB, AD, AI, h]
 ·repeat' (first | (with_reducible first | refine W ?_ | refine Z0 ?_ | ((first | refine Wo fun K hK => ?_ | refine Wp ?_ | refine Wq ?_ | refine Wr ?_); (try simp only [go_sem, fN, seval, eT, iR, h, dT, dF, nL]); (repeat refine Ai ?_); (try (refine hK _ ?_; clear hK K)); try refine iC ?_)) | refine Cg _ (E4 row) ?_)
  simp only [go_sem, fN, seval, AM, AS.result, AB, AD, AI, h]
def Ha (b : Ct) : KV × AV := (.s b.1, AR b.2)
abbrev PQ (l : List Ct) : AJ := .map none (l.map Ha)
theorem Mu (l : List Ct) (n : ByteArray) : DY (l.map Ha) (.s n) = (Fi l n).map fun t => AR t := by
 induction l with
 | nil => rfl
 | cons b l ih =>
  rw [List.map_cons, DY, BX]
  by_cases h : b.1 = n
  ·rw [if_pos (show (Ha b).1 = KV.s n from congrArg KV.s h), if_pos h]
   rfl
  ·rw [if_neg (show ¬ (Ha b).1 = KV.s n from fun e => h (KV.s.inj e)), if_neg h, ih]
theorem Mh (l : List Ct) (n : ByteArray) (x : Int) : Hl (l.map Ha) (.s n) (AR x) = (E8 l n x).map Ha := by
 induction l with
 | nil => rfl
 | cons b l ih =>
  rw [List.map_cons, Hl, E8]
  by_cases h : b.1 = n
  ·rw [if_pos (show (Ha b).1 = KV.s n from congrArg KV.s h), if_pos h]
   rfl
  ·rw [if_neg (show ¬ (Ha b).1 = KV.s n from fun e => h (KV.s.inj e)), if_neg h, ih]
   rfl
theorem Mb (l : List Ct) (n : ByteArray) : Kn false (AR 0) (DY (l.map Ha) (.s n)) = AR (Ef l n) := by
 rw [Mu]
 unfold Ef
 cases Fi l n <;> rfl
def Dl (l : List Ct) (M : Int) : Prop := ∀ v, AW v = true → -M ≤ Ef l v ∧ Ef l v ≤ M
theorem Lm {by_ : Int} (hb : by_ = 1 ∨ by_ = -1) {l : List Ct} {M : Int} (h : Dl l M) (t : Tm) : Dl (t.cnt by_ l) (M + t.size) := fun v hv => by
 rw [Fh _ _ hv]
 have h1 := h v hv
 have h2 := Lx v t
 rcases hb with rfl | rfl <;> omega
theorem Km {by_ : Int} (hb : by_ = 1 ∨ by_ = -1) {l : List Ct} {M : Int} (h : Dl l M) (xs : List Tm) : Dl (Tm.cntL by_ xs l) (M + Tm.sizes xs) := fun v hv => by
 rw [Fm _ _ hv]
 have h1 := h v hv
 have h2 := HU v xs
 rcases hb with rfl | rfl <;> omega
theorem MH (by_ : Int) (hb : by_ = 1 ∨ by_ = -1) (t : Tm) : ∀ (a0 : Nat) (l : List Ct) (M : Int) (S : AA), 1000 ≤ a0 → 0 ≤ M → M + t.size ≤ 1000000000 → Dl l M → S a0 = some (PQ l) →
  BE Try.prog 46 [aTm t, .one (.mptr a0), AR by_] S (.tup []) (AP S a0 (some (PQ (t.cnt by_ l)))) := by
 induction h : SizeOf.sizeOf t using Nat.strongRecOn generalizing t with
 | _ N ih =>
 subst h
 intro a0 l M S ha0 hM0 hM hW hSa
 have hs := Tm.size_eq t
 have hln := Tm.length_le t.args
 refine He.acS fun hS C hC => ?_
 have n3 : S 3 = none := Bq hS (by omega)
 have n7 : S 7 = none := Bq hS (by omega)
 have d3 : ¬ 3 = a0 := by omega
 have d7 : ¬ 7 = a0 := by omega
 have e3 : ¬ a0 = 3 := by omega
 have e7 : ¬ a0 = 7 := by omega
 obtain ⟨l1, hl1⟩ : ∃ l1, l1 = if AW t.name = true then E8 l t.name (Ef l t.name + by_) else l := ⟨_, rfl⟩
 have hcnt : t.cnt by_ l = Tm.cntL by_ t.args l1 := by cases t; rw [hl1]; rfl
 have hW1 : Dl l1 (M + 1) := fun v hv => by
  rw [hl1]
  have := hW v hv
  split
  ·rw [HE]
   split
   ·rename_i e
    subst e
    rcases hb with rfl | rfl <;> omega
   ·omega
  ·omega
 unfold EI
 repeat' with_reducible first | refine W ?_ | refine Z0 ?_ | ((first | refine Wo fun K hK => ?_ | refine Wp ?_ | refine Wq ?_ | refine Wr ?_); (try simp only [go_sem, fN, seval, eT, iR, n3, dT, dF, nL]); (repeat refine Ai ?_); (try (refine hK _ ?_; clear hK K)); try refine iC ?_)
 refine ⟨_, A1 _, ?_⟩
 cases hv : AW t.name
 case' true =>
  rw [if_pos hv] at hl1
  have hg := hW t.name hv
  repeat' with_reducible first | refine W ?_ | refine Z0 ?_ | ((first | refine Wo fun K hK => ?_ | refine Wp ?_ | refine Wq ?_ | refine Wr ?_); (try simp only [go_sem, fN, seval, eT, iR, hv, hSa, n3, n7, d3, d7, e3, e7, Cb, IJ, KV.of, Mb, Mh, dT, dF, nL]); (repeat refine Ai ?_); (try (refine hK _ ?_; clear hK K)); try refine iC ?_)
 case' false =>
  rw [if_neg (by rw [hv]; simp)] at hl1
  repeat' with_reducible first | refine W ?_ | refine Z0 ?_ | ((first | refine Wo fun K hK => ?_ | refine Wp ?_ | refine Wq ?_ | refine Wr ?_); (try simp only [go_sem, fN, seval, eT, iR, hv, hSa, n3, n7, d3, d7, e3, e7, dT, dF, nL]); (repeat refine Ai ?_); (try (refine hK _ ?_; clear hK K)); try refine iC ?_)
 all_goals
  refine IWP.loopD [7] (fun m x => ∃ k, k ≤ t.args.length ∧ m = t.args.length - k ∧ x.env 1 = .one (.mptr a0) ∧ x.env 2 = AR by_ ∧ x.env 18 = DD t.args ∧ x.env 19 = AR t.args.length ∧ x.env 20 = AR k ∧ x.S 7 = none ∧ x.S a0 = some (PQ (Tm.cntL by_ (t.args.take k) l1)) ∧ ∀ i, 1000 ≤ i → i ≠ a0 → x.S i = S i) t.args.length ⟨0, Nat.zero_le _, rfl, rfl, rfl, rfl, rfl, rfl, by simp only [go_sem, fN, seval, eT, iR, n7, d7], by (simp only [go_sem, fN, seval, eT, iR, e3, hSa]; rw [hl1]; try rfl), fun i hi hne => ?_⟩ ?_
  ·have i3 : ¬ i = 3 := by omega
   simp only [go_sem, fN, seval, eT, iR, i3, hne]
  rintro m ⟨env, S1⟩ ⟨k, hk, rfl, e1, e2, e18, e19, e20, s7, sa, hrest⟩
  simp only at e1 e2 e18 e19 e20 s7 sa hrest
  by_cases hlt : (k : Int) < t.args.length
  ·obtain ⟨a, ha⟩ := Aj (show k < t.args.length by omega)
   have z1 := Tm.sizes_take ha
   have z2 := Tm.sizes_take_le t.args (k + 1)
   repeat' with_reducible first | refine W ?_ | refine Z0 ?_ | ((first | refine Wo fun K hK => ?_ | refine Wp ?_ | refine Wq ?_ | refine Wr ?_); (try simp only [go_sem, fN, seval, eT, iR, e1, e2, e18, e19, e20, s7, sa, hlt, ha, dT, dF, nL]); (repeat refine Ai ?_); (try (refine hK _ ?_; clear hK K)); try refine iC ?_)
   refine ⟨_, _, ih _ (Tm.lt_of_arg (Ae ha)) a rfl (up1 a0) (Tm.cntL by_ (t.args.take k) l1) (M + 1 + Tm.sizes (t.args.take k)) _ (BL a0) (by omega) (by omega) (Km hb hW1 _) (by rw [CF]; simp only [go_sem, fN, seval, eT, iR, e7, sa]), ?_⟩
   rw [← Tm.cntL_take ha]
   repeat' with_reducible first | refine W ?_ | refine Z0 ?_ | ((first | refine Wo fun K hK => ?_ | refine Wp ?_ | refine Wq ?_ | refine Wr ?_); (try simp only [go_sem, fN, seval, eT, iR, e1, e2, e18, e19, e20, s7, dT, dF, nL]); (repeat refine Ai ?_); (try (refine hK _ ?_; clear hK K)); try refine iC ?_)
   refine AH ⟨t.args.length - (k + 1), by omega, k + 1, by omega, rfl, ?_⟩
   have hib : (a0 == 7) = false := by simp; omega
   simp only [go_sem, fN, seval, AS.drop, Bc, AC.clears, AC.clear, AC.highs, AC.high, Bool.not_false, Bool.true_and, Bool.and_self, AV.purge, AV.purges, AC.purge, AJ.purge, List.contains_cons, List.contains_nil, Nat.reduceBEq, Bool.or_self, Bool.or_false, Bool.false_or, Bool.or_true, eT, iR, e1, e2, e18, e19, e20, hib, e7]
   refine ⟨by congr 3, fun i hi hne => ?_⟩
   have i7 : ¬ i = 7 := by omega
   have i7b : (i == 7) = false := by simp; omega
   simp only [go_sem, fN, seval, AS.drop, Bc, AC.clears, AC.clear, AC.highs, AC.high, Bool.not_false, Bool.true_and, Bool.and_self, AV.purge, AV.purges, AC.purge, AJ.purge, List.contains_cons, List.contains_nil, Nat.reduceBEq, Bool.or_self, Bool.or_false, Bool.false_or, Bool.or_true, eT, iR, i7, i7b, hne]
   rw [hrest i hi hne]
   exact PZ (by decide) fun b hb => (hS i b hb).2
  ·rw [List.take_of_length_le (by omega)] at sa
   repeat' with_reducible first | refine W ?_ | refine Z0 ?_ | ((first | refine Wo fun K hK => ?_ | refine Wp ?_ | refine Wq ?_ | refine Wr ?_); (try simp only [go_sem, fN, seval, eT, iR, e18, e19, e20, hlt, dT, dF, nL]); (repeat refine Ai ?_); (try (refine hK _ ?_; clear hK K)); try refine iC ?_)
   rw [hcnt]
   exact OE (.tup []) hS ha0 rfl trivial rfl rfl sa hrest
theorem Pw {row : List ByteArray} {a b : Tm} (h : ¬ okV a b) : a.wt row b = false := by
 rw [← Bool.not_eq_true]
 exact fun k => h (Ph.1 k).1
theorem Pg {row : List ByteArray} {a b : Tm} (h : okV a b) : a.wt row b = (if a.size = b.size then (!AW a.name && !AW b.name && (if Aw row a b = 0 then Tm.wtL row a.args b.args else decide (0 < Aw row a b))) else decide (b.size < a.size)) := by
 have h1 := J4.2 h
 cases a with
 | mk n xs =>
  rw [Tm.wt, h1, Bool.true_and]
  rfl
theorem LU {seen : List Nat} (h : seen.Nodup) {j : Nat} (hj : ¬ j ∈ seen) : (seen ++ [j]).Nodup := by
 rw [List.nodup_append]
 exact ⟨h, by simp, fun a ha b hb e => hj (by rw [List.mem_singleton.1 hb] at e; rw [← e]; exact ha)⟩
theorem M2 (row : List ByteArray) (a b : Tm) (ha : a.size ≤ 1000000) (hb : b.size ≤ 1000000) : AQ Try.prog 38 [At row, aTm a, aTm b] (Ag (a.wt row b)) := by
 induction h : SizeOf.sizeOf a using Nat.strongRecOn generalizing a b with
 | _ N ih =>
 subst h
 have hsa := Tm.size_eq a
 have hsb := Tm.size_eq b
 have hla := Tm.length_le a.args
 have hlb := Tm.length_le b.args
 have hall := Mr (a := a) (b := b)
 have h0 : Dl [] 0 := fun v _ => ⟨Int.le_refl _, Int.le_refl _⟩
 have h1 := Lm (by_ := 1) (.inl rfl) h0 a
 refine Fw.ac fun C hC => ?_
 unfold Da
 repeat' with_reducible first | refine W ?_ | refine Z0 ?_ | ((first | refine Wo fun K hK => ?_ | refine Wp ?_ | refine Wq ?_ | refine Wr ?_); (try simp only [go_sem, fN, seval, eT, iR, dT, dF, nL]); (repeat refine Ai ?_); (try (refine hK _ ?_; clear hK K)); try refine iC ?_)
 refine ⟨_, _, MH 1 (.inl rfl) a (up1 13) [] 0 _ (BL 13) (by omega) (by omega) h0 (by rw [CF]; rfl), ?_⟩
 repeat' with_reducible first | refine W ?_ | refine Z0 ?_ | ((first | refine Wo fun K hK => ?_ | refine Wp ?_ | refine Wq ?_ | refine Wr ?_); (try simp only [go_sem, fN, seval, eT, iR, dT, dF, nL]); (repeat refine Ai ?_); (try (refine hK _ ?_; clear hK K)); try refine iC ?_)
 refine ⟨_, _, MH (-1) (.inr rfl) b (up1 13) (a.cnt 1 []) (0 + a.size) _ (BL 13) (by omega) (by omega) h1 (by rw [CF]; rfl), ?_⟩
 repeat' with_reducible first | refine W ?_ | refine Z0 ?_ | ((first | refine Wo fun K hK => ?_ | refine Wp ?_ | refine Wq ?_ | refine Wr ?_); (try simp only [go_sem, fN, seval, eT, iR, Cb, dT, dF, nL]); (repeat refine Ai ?_); (try (refine hK _ ?_; clear hK K)); try refine iC ?_)
 have hd : b.cnt (-1) (a.cnt 1 []) = Gx a b := rfl
 rw [hd]
 generalize Gx a b = l at *
 refine IWP.loop (fun m x => ∃ seen : List Nat, seen.Nodup ∧ (∀ j ∈ seen, j < l.length) ∧ m = l.length - seen.length ∧ (∀ j ∈ seen, ∀ c, l[j]? = some c → 0 ≤ c.2) ∧ x.env 0 = At row ∧ x.env 4 = .one (.ptr 4 1 0 0) ∧ x.env 5 = .one (.ptr 5 1 0 0) ∧ x.env 21 = .one (.ptr 21 1 0 0) ∧ x.S 4 = some (.box 25 [.st (.str a.name), .st (.list (a.args.map BI))]) ∧ x.S 5 = some (.box 25 [.st (.str b.name), .st (.list (b.args.map BI))]) ∧ x.S 13 = some (PQ l) ∧ x.S 21 = some (.iter (.mptr 13) l.length seen)) l.length ⟨[], List.nodup_nil, by simp, rfl, by simp, rfl, rfl, rfl, rfl, by simp only [go_sem, fN, seval, eT, iR], by simp only [go_sem, fN, seval, eT, iR], by simp only [go_sem, fN, seval, eT, iR], by simp only [go_sem, fN, seval, eT, iR]⟩ ?_
 rintro m ⟨env, S⟩ ⟨seen, hnd, hlt, rfl, hpos, e0, e4, e5, e21, s4, s5, s13, s21⟩
 simp only at e0 e4 e5 e21 s4 s5 s13 s21
 have hsl := KB hnd hlt
 repeat' with_reducible first | refine W ?_ | refine Z0 ?_ | ((first | refine Wo fun K hK => ?_ | refine Wp ?_ | refine Wq ?_ | refine Wr ?_); (try simp only [go_sem, fN, seval, eT, iR, e0, e4, e5, e21, s4, s5, s13, s21, Cx, dT, dF, nL]); (repeat refine Ai ?_); (try (refine hK _ ?_; clear hK K)); try refine iC ?_)
 refine ⟨fun hex => ?_, fun j x c hx hj hkv => ?_⟩
 ·have hok : okV a b := hall.1 fun c hc => by
   obtain ⟨k, hk⟩ := List.getElem?_of_mem hc
   exact hpos k (hex k (Cm hk)) c hk
  have hw := Pg (row := row) hok
  refine hK _ ?_
  clear hK K
  refine Wb ?_
  by_cases hz : a.size = b.size
  case neg =>
   have hz1 : ¬ (a.size : Int) - b.size = 0 := by omega
   rw [if_neg hz] at hw
   have hdec : decide (b.size < a.size) = decide ((0 : Int) < (a.size : Int) - b.size) := decide_eq_decide.2 (by omega)
   repeat' (first | (with_reducible first | refine W ?_ | refine Z0 ?_ | ((first | refine Wo fun K hK => ?_ | refine Wp ?_ | refine Wq ?_ | refine Wr ?_); (try simp only [go_sem, fN, seval, eT, iR, e0, e4, e5, s4, s5, hz1, dT, dF, nL]); (repeat refine Ai ?_); (try (refine hK _ ?_; clear hK K)); try refine iC ?_)) | refine Cg _ (CM a ha) ?_ | refine Cg _ (CM b hb) ?_)
   simp only [go_sem, fN, seval, AM, AS.result, AB, AD, AI]
   rw [hw, hdec]
  have hz1 : (a.size : Int) - b.size = 0 := by omega
  rw [if_pos hz] at hw
  cases hva : AW a.name with
  | true =>
   rw [hva] at hw
   repeat' (first | (with_reducible first | refine W ?_ | refine Z0 ?_ | ((first | refine Wo fun K hK => ?_ | refine Wp ?_ | refine Wq ?_ | refine Wr ?_); (try simp only [go_sem, fN, seval, eT, iR, e0, e4, e5, s4, s5, hz1, hva, dT, dF, nL]); (repeat refine Ai ?_); (try (refine hK _ ?_; clear hK K)); try refine iC ?_)) | refine Cg _ (CM a ha) ?_ | refine Cg _ (CM b hb) ?_ | refine Cg _ (A1 a.name) ?_)
   simp only [go_sem, fN, seval, AM, AS.result, AB, AD, AI]
   rw [hw]
   rfl
  | false =>
   cases hvb : AW b.name with
   | true =>
    rw [hva, hvb] at hw
    repeat' (first | (with_reducible first | refine W ?_ | refine Z0 ?_ | ((first | refine Wo fun K hK => ?_ | refine Wp ?_ | refine Wq ?_ | refine Wr ?_); (try simp only [go_sem, fN, seval, eT, iR, e0, e4, e5, s4, s5, hz1, hva, hvb, dT, dF, nL]); (repeat refine Ai ?_); (try (refine hK _ ?_; clear hK K)); try refine iC ?_)) | refine Cg _ (CM a ha) ?_ | refine Cg _ (CM b hb) ?_ | refine Cg _ (A1 a.name) ?_ | refine Cg _ (A1 b.name) ?_)
    simp only [go_sem, fN, seval, AM, AS.result, AB, AD, AI]
    rw [hw]
    rfl
   | false =>
    rw [hva, hvb, Bool.not_false, Bool.true_and, Bool.true_and] at hw
    by_cases hsy : Aw row a b = 0
    case neg =>
     rw [if_neg hsy] at hw
     repeat' (first | (with_reducible first | refine W ?_ | refine Z0 ?_ | ((first | refine Wo fun K hK => ?_ | refine Wp ?_ | refine Wq ?_ | refine Wr ?_); (try simp only [go_sem, fN, seval, eT, iR, e0, e4, e5, s4, s5, hz1, hva, hvb, hsy, dT, dF, nL]); (repeat refine Ai ?_); (try (refine hK _ ?_; clear hK K)); try refine iC ?_)) | refine Cg _ (CM a ha) ?_ | refine Cg _ (CM b hb) ?_ | refine Cg _ (A1 a.name) ?_ | refine Cg _ (A1 b.name) ?_ | refine Cg _ (F6 row a b) ?_)
     simp only [go_sem, fN, seval, AM, AS.result, AB, AD, AI]
     rw [hw]
    rw [if_pos hsy] at hw
    have hll := (CI.1 hsy).2
    repeat' (first | (with_reducible first | refine W ?_ | refine Z0 ?_ | ((first | refine Wo fun K hK => ?_ | refine Wp ?_ | refine Wq ?_ | refine Wr ?_); (try simp only [go_sem, fN, seval, eT, iR, e0, e4, e5, s4, s5, hz1, hva, hvb, hsy, dT, dF, nL]); (repeat refine Ai ?_); (try (refine hK _ ?_; clear hK K)); try refine iC ?_)) | refine Cg _ (CM a ha) ?_ | refine Cg _ (CM b hb) ?_ | refine Cg _ (A1 a.name) ?_ | refine Cg _ (A1 b.name) ?_ | refine Cg _ (F6 row a b) ?_)
    refine IWP.loop (fun m x => ∃ k, k ≤ a.args.length ∧ m = a.args.length - k ∧ Tm.wtL row a.args b.args = Tm.wtL row (a.args.drop k) (b.args.drop k) ∧ x.env 0 = At row ∧ x.env 4 = .one (.ptr 4 1 0 0) ∧ x.env 5 = .one (.ptr 5 1 0 0) ∧ x.env 55 = AR a.args.length ∧ x.env 56 = AR k ∧ x.S 4 = some (.box 25 [.st (.str a.name), .st (.list (a.args.map BI))]) ∧ x.S 5 = some (.box 25 [.st (.str b.name), .st (.list (b.args.map BI))])) a.args.length ⟨0, Nat.zero_le _, rfl, rfl, by simp only [go_sem, fN, seval, eT, iR, e0], by simp only [go_sem, fN, seval, eT, iR, e4], by simp only [go_sem, fN, seval, eT, iR, e5], rfl, rfl, by simp only [go_sem, fN, seval, eT, iR, s4], by simp only [go_sem, fN, seval, eT, iR, s5]⟩ ?_
    rintro m ⟨env, S⟩ ⟨k, hk, rfl, hr, e0, e4, e5, e55, e56, s4, s5⟩
    simp only at e0 e4 e5 e55 e56 s4 s5
    by_cases hlt : (k : Int) < a.args.length
    ·obtain ⟨x, hx⟩ := Aj (show k < a.args.length by omega)
     obtain ⟨y, hy⟩ := Aj (show k < b.args.length by omega)
     have zx := Tm.size_mem (Ae hx)
     have zy := Tm.size_mem (Ae hy)
     rw [BT hx, BT hy, Tm.wtL] at hr
     cases hxy : x.beq y with
     | true =>
      rw [if_pos hxy] at hr
      repeat' (first | (with_reducible first | refine W ?_ | refine Z0 ?_ | ((first | refine Wo fun K hK => ?_ | refine Wp ?_ | refine Wq ?_ | refine Wr ?_); (try simp only [go_sem, fN, seval, eT, iR, e0, e4, e5, e55, e56, s4, s5, hlt, hx, hy, hxy, dT, dF, nL]); (repeat refine Ai ?_); (try (refine hK _ ?_; clear hK K)); try refine iC ?_)) | refine Cg _ (G1 x y) ?_)
      refine AH ⟨a.args.length - (k + 1), by omega, k + 1, by omega, rfl, hr, ?_⟩
      simp only [go_sem, fN, seval, eT, iR, e0, e4, e5, e55, e56, s4, s5]
      congr 3
     | false =>
      rw [if_neg (by rw [hxy]; simp)] at hr
      repeat' (first | (with_reducible first | refine W ?_ | refine Z0 ?_ | ((first | refine Wo fun K hK => ?_ | refine Wp ?_ | refine Wq ?_ | refine Wr ?_); (try simp only [go_sem, fN, seval, eT, iR, e0, e4, e5, e55, e56, s4, s5, hlt, hx, hy, hxy, dT, dF, nL]); (repeat refine Ai ?_); (try (refine hK _ ?_; clear hK K)); try refine iC ?_)) | refine Cg _ (G1 x y) ?_ | refine Cg _ (ih _ (Tm.lt_of_arg (Ae hx)) x y (by omega) (by omega) rfl) ?_)
      simp only [go_sem, fN, seval, AM, AS.result, AB, AD, AI]
      rw [hw, hr]
    ·have hr0 : Tm.wtL row [] (b.args.drop k) = false := by simp [Tm.wtL]
     rw [List.drop_of_length_le (l := a.args) (by omega), hr0] at hr
     repeat' with_reducible first | refine W ?_ | refine Z0 ?_ | ((first | refine Wo fun K hK => ?_ | refine Wp ?_ | refine Wq ?_ | refine Wr ?_); (try simp only [go_sem, fN, seval, eT, iR, e55, e56, hlt, dT, dF, nL]); (repeat refine Ai ?_); (try (refine hK _ ?_; clear hK K)); try refine iC ?_)
     simp only [go_sem, fN, seval, AM, AS.result, AB, AD, AI]
     rw [hw, hr]
 ·rw [Option.map_eq_some_iff] at hx
  obtain ⟨ct, hb1, rfl⟩ := hx
  have hjl := Cm hb1
  have hnd' := LU hnd hj
  have hlt' : ∀ i ∈ seen ++ [j], i < l.length := fun i hi => by
   rcases List.mem_append.1 hi with h | h
   ·exact hlt i h
   ·rw [List.mem_singleton.1 h]; exact hjl
  have hsl' := KB hnd' hlt'
  rw [List.length_append, List.length_singleton] at hsl'
  have hcv : c = .str ct.1 := by
   have : some (SV.str ct.1) = some c := hkv
   cases this
   rfl
  subst hcv
  refine hK _ ?_
  clear hK K
  refine Wb ?_
  by_cases hneg : ct.2 < 0
  ·have hw := Pw (row := row) (a := a) (b := b) fun hok => by
    have := hall.2 hok ct (Ae hb1)
    omega
   repeat' with_reducible first | refine W ?_ | refine Z0 ?_ | ((first | refine Wo fun K hK => ?_ | refine Wp ?_ | refine Wq ?_ | refine Wr ?_); (try simp only [go_sem, fN, seval, eT, iR, e0, e4, e5, e21, s4, s5, s13, s21, Cx, List.getLast?_concat, hb1, Ha, KV.sv, hneg, dT, dF, nL]); (repeat refine Ai ?_); (try (refine hK _ ?_; clear hK K)); try refine iC ?_)
   simp only [go_sem, fN, seval, AM, AS.result, AB, AD, AI]
   rw [hw]
  ·repeat' with_reducible first | refine W ?_ | refine Z0 ?_ | ((first | refine Wo fun K hK => ?_ | refine Wp ?_ | refine Wq ?_ | refine Wr ?_); (try simp only [go_sem, fN, seval, eT, iR, e0, e4, e5, e21, s4, s5, s13, s21, Cx, List.getLast?_concat, hb1, Ha, KV.sv, hneg, dT, dF, nL]); (repeat refine Ai ?_); (try (refine hK _ ?_; clear hK K)); try refine iC ?_)
   refine AH ⟨l.length - (seen.length + 1), by omega, seen ++ [j], hnd', hlt', by rw [List.length_append, List.length_singleton], fun i hi c hc => ?_, ?_⟩
   ·rcases List.mem_append.1 hi with h | h
    ·exact hpos i h c hc
    ·rw [List.mem_singleton.1 h, hb1] at hc
     cases hc
     omega
   ·simp only [go_sem, fN, seval, eT, iR, e0, e4, e5, e21, s4, s5, s13, s21]
def CR (row : List ByteArray) (a b : Tm) : Bool := decide (Bb row a b = 0) && a.wt row b
theorem FY {row : List ByteArray} {a b : Tm} (h : Bb row a b = 0) : BU row = 0 ∧ a.may = 0 ∧ b.may = 0 := by
 unfold Bb Cp at h
 split at h
 ·rename_i h1
  split at h
  ·rename_i h2
   exact ⟨h1, h2, h⟩
  ·rename_i h2
   exact absurd h h2
 ·rename_i h1
  exact absurd h h1
theorem Hz (row : List ByteArray) (a b : Tm) : AQ Try.prog 21 [At row, aTm a, aTm b] (.tup [Ag (CR row a b), AR (Bb row a b)]) := by
 unfold CR
 refine GW.ac fun C hC => ?_
 unfold Dx
 by_cases h : Bb row a b = 0
 ·obtain ⟨_, h1, h2⟩ := FY h
  have z1 := (Tm.may_chk h1).2
  have z2 := (Tm.may_chk h2).2
  repeat' (first | (with_reducible first | refine W ?_ | refine Z0 ?_ | ((first | refine Wo fun K hK => ?_ | refine Wp ?_ | refine Wq ?_ | refine Wr ?_); (try simp only [go_sem, fN, seval, eT, iR, h, dT, dF, nL]); (repeat refine Ai ?_); (try (refine hK _ ?_; clear hK K)); try refine iC ?_)) | refine Cg _ (C9 row a b) ?_ | refine Cg _ (M2 row a b (by omega) (by omega)) ?_)
  simp only [go_sem, fN, seval, AM, AS.result, AB, AD, AI, h]
  try rfl
 ·repeat' (first | (with_reducible first | refine W ?_ | refine Z0 ?_ | ((first | refine Wo fun K hK => ?_ | refine Wp ?_ | refine Wq ?_ | refine Wr ?_); (try simp only [go_sem, fN, seval, eT, iR, h, dT, dF, nL]); (repeat refine Ai ?_); (try (refine hK _ ?_; clear hK K)); try refine iC ?_)) | refine Cg _ (C9 row a b) ?_)
  simp only [go_sem, fN, seval, AM, AS.result, AB, AD, AI, h]
  try rfl

end Go.Proofs.Ytdlbfdcklpleaaa
