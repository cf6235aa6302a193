/-
  Part 8 of the texts. Conditions: none.
-/
import Derived.Test.YtkegjgodjigjfaaAuK7
namespace Go.Proofs.Ytkegjgodjigjfaa
open Go Go.RowKit
set_option linter.unusedVariables false
set_option linter.unusedSimpArgs false
set_option maxHeartbeats 1000000
def DQ (j : J) : List SV := [.int .u64 (bN j.1 : Int), .int .u64 (bN j.2 : Int)]
instance lensEncJ : MC DQ 2 := ⟨fun _ => rfl⟩
abbrev aJs (l : List J) : AV := .one (.st (.list (l.map DQ)))
def ME (j : J) : KV := .p (.i (bN j.1 : Int)) (.i (bN j.2 : Int))
def PA (j : J) : KV × AV := (ME j, As true)
abbrev Kn (l : List J) : AH := .map (some (.two (some .u64) (some .u64))) (l.map PA)
abbrev JQ (l : List J) : AH := .arow 67 2 (l.map DQ)
theorem Po {i j : J} (h1 : i.1.length = j.1.length) (h2 : i.2.length = j.2.length) : ME i = ME j ↔ i = j := by
 constructor
 ·intro h
  simp only [ME, KV.p.injEq, KV.i.injEq] at h
  exact Prod.ext (IA h1 (by omega)) (IA h2 (by omega))
 ·rintro rfl; rfl
section
variable {a b : Au} {syms : List Sym}
theorem Je {l : List J} {j : J} (h : ∀ i ∈ l, i.1.length = j.1.length ∧ i.2.length = j.2.length) : (j ∈ l → B3 (l.map PA) (ME j) = some (As true)) ∧ (¬ j ∈ l → B3 (l.map PA) (ME j) = none) := by
 induction l with
 | nil => exact ⟨fun h => (by cases h), fun _ => rfl⟩
 | cons x l ih =>
  obtain ⟨i1, i2⟩ := ih fun i hi => h i (by simp [hi])
  obtain ⟨e1, e2⟩ := h x (by simp)
  simp only [List.map_cons, B3, PA, Po e1 e2]
  by_cases e : x = j
  ·subst e
   exact ⟨fun _ => by rw [if_pos rfl], fun h => absurd (by simp) h⟩
  ·rw [if_neg e]
   refine ⟨fun h => i1 ?_, fun h => i2 fun h' => h (by simp [h'])⟩
   rcases List.mem_cons.1 h with h | h
   ·exact absurd h.symm e
   ·exact h
theorem Oo {l : List J} {j : J} (h : ∀ i ∈ l, i.1.length = j.1.length ∧ i.2.length = j.2.length) (hm : ¬ j ∈ l) : Fh (l.map PA) (ME j) (As true) = (l ++ [j]).map PA := by
 rw [FF ((Je h).2 hm), List.map_append]
 rfl
end
def Cc (S : AA) (base : Nat) (out : List J) : AA := AF (AF (AF (AF (upS S) 1500 (some (JQ out))) 1007 (some (.box 61 [.row 1500 out.length]))) 1018 (some (Kn out))) 1009 (some (.box 4 [.st (.bool (decide (base < out.length)))]))
theorem Bj {S : AA} {base : Nat} {out : List J} {i : Nat} (h1 : i ≠ 1500) (h2 : i ≠ 1007) (h3 : i ≠ 1018) (h4 : i ≠ 1009) : Cc S base out i = upS S i := by
 unfold Cc
 rw [AD _ h4, AD _ h3, AD _ h2, AD _ h1]
theorem GV {S : AA} {base : Nat} {out : List J} : Al (Cc S base out) :=
 Ay (Ay (Ay (Ay (Dt S) (by decide) rfl) (by decide) rfl) (by decide) rfl) (by decide) rfl
theorem Mn {S : AA} {base : Nat} {out : List J} : dnS (Cc S base out) = AF (AF (AF (AF S 500 (some (JQ out))) 7 (some (.box 61 [.row 500 out.length]))) 18 (some (Kn out))) 9 (some (.box 4 [.st (.bool (decide (base < out.length)))])) := by
 unfold Cc
 rw [show (1009 : Nat) = up1 9 from rfl, E6, show (1018 : Nat) = up1 18 from rfl, E6, show (1007 : Nat) = up1 7 from rfl, E6, show (1500 : Nat) = up1 500 from rfl, E6, Iq]
 rfl
theorem EA {S : AA} {r : Nat} {b : AH} (h : S r = some b) : AF S r (some b) = S := by
 funext k
 unfold AF
 split
 ·rename_i e; rw [e, h]
 ·rfl
theorem MF {S : AA} {base : Nat} {out : List J} (h1 : S 500 = some (JQ out)) (h2 : S 7 = some (.box 61 [.row 500 out.length])) (h3 : S 18 = some (Kn out)) (h4 : S 9 = some (.box 4 [.st (.bool (decide (base < out.length)))])) : upS S = Cc S base out := by
 unfold Cc
 have k1 : upS S 1500 = some (JQ out) := Bg h1
 have k2 : upS S 1007 = some (.box 61 [.row 1500 out.length]) := Bg h2
 have k3 : upS S 1018 = some (Kn out) := Bg h3
 have k4 : upS S 1009 = some (.box 4 [.st (.bool (decide (base < out.length)))]) := Bg h4
 rw [EA k1, EA k2, EA k3, EA k4]
theorem OA (a b : Au) (ga : a.Good) (gb : b.Good) (ha : a.states ≤ 3) (hb : b.states ≤ 3) (hma : a.moves.length ≤ 100000) (hmb : b.moves.length ≤ 100000) (syms : List Sym) (h2 : ∀ s ∈ syms, s.2 ≤ 2) (hsl : syms.length ≤ 100000) :
  Ap Try.prog 31 [aAu a, aAu b, Cx syms] (aJs (A7 a b syms)) := by
 obtain ⟨k0, hk0, hst⟩ := Fi (a := a) (b := b) h2 ha hb
 refine I_.acT fun C hC htop => ?_
 unfold FZ
 repeat' with_reducible first | refine W ?_ | refine Z0 ?_ | ((first | refine Wo fun K hK => ?_ | refine Wp ?_ | refine Wq ?_ | refine Wr ?_); (try simp only [go_sem, fN, seval, eT, iR, dT, dF, nL]); (repeat refine Ai ?_); (try (refine hK _ ?_; clear hK K)); try refine iC ?_)
 refine IWP.ghost (Ae.ownCellA (e' := 67) (id := 7) (r := 500) 0 2 rfl rfl rfl (by decide)) ?_
 refine IWP.loop (fun q s => ∃ i, i ≤ k0 + 1 ∧ q = k0 + 2 - i ∧ s.env 2 = Cx syms ∧ s.env 3 = .one (.ptr 3 1 0 0) ∧ s.env 4 = .one (.ptr 4 1 0 0) ∧ s.env 7 = .one (.ptr 7 1 0 0) ∧ s.env 8 = .one (.ptr 8 1 0 0) ∧ s.env 9 = .one (.ptr 9 1 0 0) ∧ s.S 3 = some (AL a) ∧ s.S 4 = some (AL b) ∧
  s.S 7 = some (.box 61 [.row 500 (itJ a b syms i).length]) ∧ s.S 500 = some (JQ (itJ a b syms i)) ∧ s.S 8 = some (.box 97 [.mptr 18]) ∧ s.S 18 = some (Kn (itJ a b syms i)) ∧ (∃ m, s.S 9 = some (.box 4 [.st (.bool m)]) ∧ (m = false → ∃ j, i = j + 1 ∧ itJ a b syms (j + 1) = itJ a b syms j) ∧ (m = true → i ≤ k0)) ∧ s.S 11 = none ∧ s.S 501 = none ∧ s.S 502 = none) (k0 + 2)
  ⟨0, Nat.zero_le _, rfl, rfl, rfl, rfl, rfl, rfl, rfl, rfl, rfl, rfl, rfl, rfl, rfl, ⟨true, rfl, by simp, fun _ => Nat.zero_le _⟩, rfl, rfl, rfl⟩ ?_
 rintro q ⟨env, S⟩ ⟨i, hi, rfl, e2, e3, e4, e7, e8, e9, s3, s4, s7, s500, s8, s18, ⟨mo, s9, hm1, hm2⟩, s11, s501, s502⟩
 simp only at e2 e3 e4 e7 e8 e9 s3 s4 s7 s500 s8 s18 s9 s11 s501 s502
 cases mo with
 | false =>
  obtain ⟨j, rfl, hj⟩ := hm1 rfl
  have hR := JV h2 ha hb hj
  rw [← hj] at hR
  rw [hR] at s7 s500
  repeat' with_reducible first | refine W ?_ | refine Z0 ?_ | ((first | refine Wo fun K hK => ?_ | refine Wp ?_ | refine Wq ?_ | refine Wr ?_); (try simp only [go_sem, fN, seval, eT, iR, e2, e3, e4, e7, e8, e9, s7, s500, s9, dT, dF, nL]); (repeat refine Ai ?_); (try (refine hK _ ?_; clear hK K)); try refine iC ?_)
  simp only [go_sem, fN, seval, Ab, AS.result, AI, AJ, AW, s500]
 | true =>
  have hik := hm2 rfl
  repeat' with_reducible first | refine W ?_ | refine Z0 ?_ | ((first | refine Wo fun K hK => ?_ | refine Wp ?_ | refine Wq ?_ | refine Wr ?_); (try simp only [go_sem, fN, seval, eT, iR, e2, e3, e4, e7, e8, e9, s7, s500, s9, dT, dF, nL]); (repeat refine Ai ?_); (try (refine hK _ ?_; clear hK K)); try refine iC ?_)
  obtain ⟨o0, ho0⟩ : ∃ o0, itJ a b syms i = o0 := ⟨_, rfl⟩
  have hok0 := Kr (a := a) (b := b) h2 i
  rw [ho0] at s7 s500 s18 hok0
  refine IWP.loopD [11, 501, 502] (fun q s => ∃ k, k ≤ syms.length ∧ q = syms.length - k ∧ s.env 2 = Cx syms ∧ s.env 3 = .one (.ptr 3 1 0 0) ∧ s.env 4 = .one (.ptr 4 1 0 0) ∧ s.env 7 = .one (.ptr 7 1 0 0) ∧ s.env 8 = .one (.ptr 8 1 0 0) ∧ s.env 9 = .one (.ptr 9 1 0 0) ∧ s.env 20 = Cx syms ∧ s.env 21 = AN syms.length ∧ s.env 22 = AN k ∧ s.S 3 = some (AL a) ∧ s.S 4 = some (AL b) ∧
   s.S 7 = some (.box 61 [.row 500 ((syms.take k).foldl (EF a b) o0).length]) ∧ s.S 500 = some (JQ ((syms.take k).foldl (EF a b) o0)) ∧ s.S 8 = some (.box 97 [.mptr 18]) ∧ s.S 18 = some (Kn ((syms.take k).foldl (EF a b) o0)) ∧ s.S 9 = some (.box 4 [.st (.bool (decide (o0.length < ((syms.take k).foldl (EF a b) o0).length)))]) ∧ s.S 11 = none ∧ s.S 501 = none ∧ s.S 502 = none) syms.length
   ⟨0, Nat.zero_le _, rfl, e2, e3, e4, e7, e8, e9, by simp only [go_sem, fN, seval, eT, iR, e2], by simp only [go_sem, fN, seval, eT, iR], rfl, by simp only [go_sem, fN, seval, eT, iR, s3], by simp only [go_sem, fN, seval, eT, iR, s4], by simp only [go_sem, fN, seval, eT, iR, s7]; rfl, by simp only [go_sem, fN, seval, eT, iR, s500]; rfl, by simp only [go_sem, fN, seval, eT, iR, s8], by simp only [go_sem, fN, seval, eT, iR, s18]; rfl, by simp only [go_sem, fN, seval, eT, iR]; simp, by simp only [go_sem, fN, seval, eT, iR, s11], by simp only [go_sem, fN, seval, eT, iR, s501], by simp only [go_sem, fN, seval, eT, iR, s502]⟩ ?_
  clear e2 e3 e4 e7 e8 e9 s3 s4 s7 s500 s8 s18 s9 s11 s501 s502
  rintro q ⟨env, S⟩ ⟨k, hk, rfl, e2, e3, e4, e7, e8, e9, e20, e21, e22, s3, s4, s7, s500, s8, s18, s9, s11, s501, s502⟩
  simp only at e2 e3 e4 e7 e8 e9 e20 e21 e22 s3 s4 s7 s500 s8 s18 s9 s11 s501 s502
  by_cases hlt : (k : Int) < syms.length
  ·obtain ⟨sy, hsk⟩ := Ad (show k < syms.length by omega)
   have hsm := AR hsk
   have hs2 := h2 sy hsm
   have hfold : (syms.take (k + 1)).foldl (EF a b) o0 = EF a b ((syms.take k).foldl (EF a b) o0) sy := by
    rw [Af hsk, List.foldl_append]
    rfl
   have hoko : OkJ a b syms ((syms.take k).foldl (EF a b) o0) := OkJ.symsF h2 (fun s hs => List.mem_of_mem_take hs) hok0
   have hbase := (EC (f := EF a b) (fun out s => Io out s) (syms.take k) o0).length_le
   obtain ⟨o, ho⟩ : ∃ o, (syms.take k).foldl (EF a b) o0 = o := ⟨_, rfl⟩
   rw [ho] at s7 s500 s18 s9 hfold hoko hbase
   have holen := hoko.len ha hb
   have hol : (o.map DQ).length = o.length := by simp
   repeat' (first | (with_reducible first | refine W ?_ | refine Z0 ?_ | ((first | refine Wo fun K hK => ?_ | refine Wp ?_ | refine Wq ?_ | refine Wr ?_); (try simp only [go_sem, fN, seval, eT, iR, e2, e3, e4, e7, e8, e9, e20, e21, e22, s3, s4, s7, s500, s8, s18, s9, s11, s501, s502, hlt, hsk, Gw, hol, dT, dF, nL]); (repeat refine Ai ?_); (try (refine hK _ ?_; clear hK K)); try refine iC ?_)) | refine Cg _ (Lj o.length sy.2) ?_)
   refine IWP.at_ (fun env S => env 2 = Cx syms ∧ env 3 = .one (.ptr 3 1 0 0) ∧ env 4 = .one (.ptr 4 1 0 0) ∧ env 7 = .one (.ptr 7 1 0 0) ∧ env 8 = .one (.ptr 8 1 0 0) ∧ env 9 = .one (.ptr 9 1 0 0) ∧ env 11 = .one (.ptr 11 1 0 0) ∧ env 20 = Cx syms ∧ env 21 = AN syms.length ∧ env 22 = AN k ∧ env 30 = .one (.fn 57 [.eptr [.int .i64 sy.2], .eptr [.int .i64 o.length]]) ∧ S 3 = some (AL a) ∧ S 4 = some (AL b) ∧
    S 7 = some (.box 61 [.row 500 o.length]) ∧ S 500 = some (JQ o) ∧ S 8 = some (.box 97 [.mptr 18]) ∧ S 18 = some (Kn o) ∧ S 9 = some (.box 4 [.st (.bool (decide (o0.length < o.length)))]) ∧ S 11 = some (.box 72 [.st (.str sy.1), .st (.int .i64 (sy.2 : Int))]) ∧ S 501 = none ∧ S 502 = none)
    ⟨e2, e3, e4, e7, e8, e9, rfl, e20, e21, e22, rfl, by simp only [go_sem, fN, seval, eT, iR, s3], by simp only [go_sem, fN, seval, eT, iR, s4], by simp only [go_sem, fN, seval, eT, iR, s7], by simp only [go_sem, fN, seval, eT, iR, s500], by simp only [go_sem, fN, seval, eT, iR, s8], by simp only [go_sem, fN, seval, eT, iR, s18], by simp only [go_sem, fN, seval, eT, iR, s9], by simp only [go_sem, fN, seval, eT, iR], by simp only [go_sem, fN, seval, eT, iR, s501], by simp only [go_sem, fN, seval, eT, iR, s502]⟩ ?_
   clear e2 e3 e4 e7 e8 e9 e20 e21 e22 s3 s4 s7 s500 s8 s18 s9 s11 s501 s502
   rintro env S ⟨e2, e3, e4, e7, e8, e9, e11, e20, e21, e22, e30, s3, s4, s7, s500, s8, s18, s9, s11, s501, s502⟩
   refine IWP.rangeW htop 501 (by decide) s501 (show AS.ev _ (.t 30) = _ from e30) (by kernel_rfl) 502 (by decide) (Gb o.length sy.2 hs2 (by omega)) rfl (fun pre U => U = Cc S o0.length (pre.foldl (C5 a b sy.1) o)) (fun _ _ => False) ?_ ?_ (fun _ _ _ _ _ => trivial) ?_ ?_ (fun _ _ _ h => h.elim)
   ·exact MF s500 s7 s18 s9
   ·rintro pre U rfl
    rw [Bj (by decide) (by decide) (by decide) (by decide), show up1 502 = up1 502 from rfl, Bt, s502]
    rfl
   ·rintro C' b0 b1 pre v U hC' hpre rfl hU hcl hb1
    obtain ⟨tl, htl⟩ := hpre
    have hvm : v ∈ CH o.length sy.2 := by rw [← htl]; simp
    obtain ⟨hvl, hvi⟩ := (DT hs2).1 hvm
    have hpm : ∀ l ∈ pre, l.length = sy.2 ∧ ∀ i ∈ l, i < o.length := fun l hl => (DT hs2).1 (by rw [← htl]; simp [hl])
    have hok1 : OkJ a b syms (pre.foldl (C5 a b sy.1) o) := OkJ.steps hsm hoko (Nat.le_refl _) hpm
    have hpre1 := EC (f := C5 a b sy.1) (fun out l => FM out l) pre o
    have hsnoc : (pre ++ [v]).foldl (C5 a b sy.1) o = C5 a b sy.1 (pre.foldl (C5 a b sy.1) o) v := by rw [List.foldl_append]; rfl
    obtain ⟨o1, ho1⟩ : ∃ o1, pre.foldl (C5 a b sy.1) o = o1 := ⟨_, rfl⟩
    rw [ho1] at hok1 hpre1 hsnoc hcl hU ⊢
    have h1len := hok1.len ha hb
    have hvi1 : ∀ i ∈ v, i < o1.length := fun i hi => Nat.lt_of_lt_of_le (hvi i hi) hpre1.length_le
    have low : ∀ {i : Nat}, i < 1000 → Cc S o0.length o1 i = none := fun hi => BQ hcl hi
    have n13 := low (i := 45) (by decide)
    have n14 := low (i := 53) (by decide)
    have n17 := low (i := 17) (by decide)
    have w3 : Bh C.n env 3 = .one (.ptr 1003 1 0 0) := by rw [Bh, if_pos (by rw [hC]; decide), e3]; rfl
    have w4 : Bh C.n env 4 = .one (.ptr 1004 1 0 0) := by rw [Bh, if_pos (by rw [hC]; decide), e4]; rfl
    have w7 : Bh C.n env 7 = .one (.ptr 1007 1 0 0) := by rw [Bh, if_pos (by rw [hC]; decide), e7]; rfl
    have w8 : Bh C.n env 8 = .one (.ptr 1008 1 0 0) := by rw [Bh, if_pos (by rw [hC]; decide), e8]; rfl
    have w9 : Bh C.n env 9 = .one (.ptr 1009 1 0 0) := by rw [Bh, if_pos (by rw [hC]; decide), e9]; rfl
    have w11 : Bh C.n env 11 = .one (.ptr 1011 1 0 0) := by rw [Bh, if_pos (by rw [hC]; decide), e11]; rfl
    have u501 : up1 501 = 1501 := rfl
    have u502 : up1 502 = 1502 := rfl
    have hel := BM v
    obtain ⟨W, hW⟩ : ∃ W, AF (AF (Cc S o0.length o1) 1502 (some (.mrow 3 1 (AZ v)))) 1501 (some b1) = W := ⟨_, rfl⟩
    rw [u501, u502, hel, hvl]
    repeat' with_reducible first | refine W ?_ | refine Z0 ?_ | ((first | refine Wo fun K hK => ?_ | refine Wp ?_ | refine Wq ?_ | refine Wr ?_); (try simp only [go_sem, fN, seval, eT, iR, HK, u501, u502, dT, dF, nL]); (repeat refine Ai ?_); (try (refine hK _ ?_; clear hK K)); try refine iC ?_)
    refine AE ⟨by simp only [go_sem, fN, seval, eT, iR, u501, u502], ?_⟩
    refine IWP.at_ (fun env1 S1 => env1 3 = .one (.ptr 1003 1 0 0) ∧ env1 4 = .one (.ptr 1004 1 0 0) ∧ env1 7 = .one (.ptr 1007 1 0 0) ∧ env1 8 = .one (.ptr 1008 1 0 0) ∧ env1 9 = .one (.ptr 1009 1 0 0) ∧ env1 11 = .one (.ptr 1011 1 0 0) ∧ env1 12 = .one (.row 1502 sy.2) ∧ S1 = W) ⟨w3, w4, w7, w8, w9, w11, rfl, by rw [← hW]; exact G7⟩ ?_
    rintro env1 S1 ⟨x3, x4, x7, x8, x9, x11, x12, rfl⟩
    have hWat : ∀ i, i ≠ 1501 → i ≠ 1502 → S1 i = Cc S o0.length o1 i := fun i p q => by rw [← hW, AD _ p, AD _ q]
    have q45 : S1 45 = none := by rw [hWat 45 (by decide) (by decide)]; exact n13
    have q53 : S1 53 = none := by rw [hWat 53 (by decide) (by decide)]; exact n14
    have q17 : S1 17 = none := by rw [hWat 17 (by decide) (by decide)]; exact n17
    have q3 : S1 1003 = some (AL a) := by rw [hWat 1003 (by decide) (by decide), Bj (by decide) (by decide) (by decide) (by decide)]; exact Bg s3
    have q4 : S1 1004 = some (AL b) := by rw [hWat 1004 (by decide) (by decide), Bj (by decide) (by decide) (by decide) (by decide)]; exact Bg s4
    have q8 : S1 1008 = some (.box 97 [.mptr 1018]) := by rw [hWat 1008 (by decide) (by decide), Bj (by decide) (by decide) (by decide) (by decide)]; exact Bg s8
    have q11 : S1 1011 = some (.box 72 [.st (.str sy.1), .st (.int .i64 (sy.2 : Int))]) := by rw [hWat 1011 (by decide) (by decide), Bj (by decide) (by decide) (by decide) (by decide)]; exact Bg s11
    have q7 : S1 1007 = some (.box 61 [.row 1500 o1.length]) := by rw [hWat 1007 (by decide) (by decide)]; rfl
    have q500 : S1 1500 = some (JQ o1) := by rw [hWat 1500 (by decide) (by decide)]; rfl
    have q18 : S1 1018 = some (Kn o1) := by rw [hWat 1018 (by decide) (by decide)]; rfl
    have q9 : S1 1009 = some (.box 4 [.st (.bool (decide (o0.length < o1.length)))]) := by rw [hWat 1009 (by decide) (by decide)]; rfl
    have q502 : S1 1502 = some (.mrow 3 1 (AZ v)) := by rw [← hW, AD _ (by decide), AB]
    have hWc : Al S1 := by rw [← hW]; exact Ay (Ay GV (by decide) rfl) (by decide) hb1
    repeat' with_reducible first | refine W ?_ | refine Z0 ?_ | ((first | refine Wo fun K hK => ?_ | refine Wp ?_ | refine Wq ?_ | refine Wr ?_); (try simp only [go_sem, fN, seval, eT, iR, x12, q502, hel, hvl, dT, dF, nL]); (repeat refine Ai ?_); (try (refine hK _ ?_; clear hK K)); try refine iC ?_)
    refine IWP.ghost (Ae.own 13 45 65 1 rfl q45 (by simp) (by rw [hC', hC]; decide)) ?_
    refine IWP.ghost (Ae.own 14 53 65 1 rfl (by simp only [go_sem, fN, seval, eT, iR, q53]) (by simp) (by rw [hC', hC]; decide)) ?_
    refine IWP.loop (fun q s => ∃ t, t ≤ sy.2 ∧ q = sy.2 - t ∧ s.env 3 = .one (.ptr 1003 1 0 0) ∧ s.env 4 = .one (.ptr 1004 1 0 0) ∧ s.env 7 = .one (.ptr 1007 1 0 0) ∧ s.env 8 = .one (.ptr 1008 1 0 0) ∧ s.env 9 = .one (.ptr 1009 1 0 0) ∧ s.env 11 = .one (.ptr 1011 1 0 0) ∧ s.env 13 = .one (.row 45 t) ∧ s.env 14 = .one (.row 53 t) ∧ s.env 32 = .one (.row 1502 sy.2) ∧ s.env 33 = AN sy.2 ∧ s.env 34 = AN t ∧
     s.S 45 = some (.arow 65 1 (((Aq o1 (v.take t)).map Prod.fst).map Hy)) ∧ s.S 53 = some (.arow 65 1 (((Aq o1 (v.take t)).map Prod.snd).map Hy)) ∧ s.S 17 = none ∧ ∀ i, 1000 ≤ i → s.S i = S1 i) sy.2
     ⟨0, Nat.zero_le _, rfl, x3, x4, x7, x8, x9, x11, rfl, rfl, by simp only [go_sem, fN, seval, eT, iR, x12], by simp only [go_sem, fN, seval, eT, iR], rfl, by simp only [go_sem, fN, seval, eT, iR]; rfl, by simp only [go_sem, fN, seval, eT, iR]; rfl, by simp only [go_sem, fN, seval, eT, iR, q17], fun i hi => (AD _ (by omega) _).trans (AD _ (by omega) _)⟩ ?_
    rintro q ⟨env2, S2⟩ ⟨t, ht, rfl, y3, y4, y7, y8, y9, y11, y13, y14, y32, y33, y34, z45, z53, z17, hS2⟩
    simp only at y3 y4 y7 y8 y9 y11 y13 y14 y32 y33 y34 z45 z53 z17 hS2
    have r3 := (hS2 1003 (by decide)).trans q3
    have r4 := (hS2 1004 (by decide)).trans q4
    have r7 := (hS2 1007 (by decide)).trans q7
    have r8 := (hS2 1008 (by decide)).trans q8
    have r9 := (hS2 1009 (by decide)).trans q9
    have r11 := (hS2 1011 (by decide)).trans q11
    have r500 := (hS2 1500 (by decide)).trans q500
    have r18 := (hS2 1018 (by decide)).trans q18
    have r502 := (hS2 1502 (by decide)).trans q502
    have hl45 : (((Aq o1 (v.take t)).map Prod.fst).map Hy).length = t := by rw [List.length_map, List.length_map, CG, List.length_take]; omega
    have hl53 : (((Aq o1 (v.take t)).map Prod.snd).map Hy).length = t := by rw [List.length_map, List.length_map, CG, List.length_take]; omega
    have hol1 : (o1.map DQ).length = o1.length := by simp
    by_cases htl2 : t < sy.2
    ·obtain ⟨x, hx⟩ := Ad (show t < v.length by omega)
     have hxo := hvi1 x (AR hx)
     have hx' := Bk hx
     obtain ⟨jx, hjx⟩ := Ad hxo
     have hpt : Aq o1 (v.take (t + 1)) = Aq o1 (v.take t) ++ [jx] := by
      rw [Af hx]
      unfold Aq
      rw [List.map_append, List.map_cons, List.map_nil, List.getD_eq_getElem?_getD, hjx]
      rfl
     have hjm := hok1.gen jx (AR hjx)
     repeat' with_reducible first | refine W ?_ | refine Z0 ?_ | ((first | refine Wo fun K hK => ?_ | refine Wp ?_ | refine Wq ?_ | refine Wr ?_); (try simp only [go_sem, fN, seval, eT, iR, y3, y4, y7, y8, y9, y11, y13, y14, y32, y33, y34, z45, z53, r7, r500, r502, htl2, hx', hjx, hl45, hl53, hol1, hel, hvl, DQ, Fa, dT, dF, nL]); (repeat refine Ai ?_); (try (refine hK _ ?_; clear hK K)); try refine iC ?_)
     refine AE ⟨sy.2 - (t + 1), by omega, t + 1, by omega, rfl, y3, y4, y7, y8, y9, y11, ?_, ?_, ?_, ?_, rfl, ?_, ?_, ?_, fun i hi => ?_⟩
     ·simp only [go_sem, fN, seval, eT, iR]
     ·simp only [go_sem, fN, seval, eT, iR]
     ·simp only [go_sem, fN, seval, eT, iR, y32]
     ·simp only [go_sem, fN, seval, eT, iR, y33]
     ·rw [hpt]
      simp only [go_sem, fN, seval, eT, iR]
      simp [Hy]
     ·rw [hpt]
      simp only [go_sem, fN, seval, eT, iR]
      simp [Hy]
     ·simp only [go_sem, fN, seval, eT, iR, z17]
     ·show AF (AF S2 45 _) 53 _ i = _
      rw [AD _ (by omega), AD _ (by omega)]
      exact hS2 i hi
    ·have hte : t = sy.2 := by omega
     have htk : v.take t = v := by rw [hte, ← hvl]; exact List.take_length
     rw [htk] at z45 z53 hl45 hl53
     have hbelow : ∀ x ∈ Aq o1 v, x.1.length = a.states.toNat ∧ x.2.length = b.states.toNat := fun x hx => (hok1.gen x (Dy hvi1 x hx)).len
     have hfa := Ka a ga (by omega) hma sy.1 ((Aq o1 v).map Prod.fst) (fun l hl => by
      obtain ⟨x, hx, rfl⟩ := List.mem_map.1 hl
      exact (hbelow x hx).1) (by rw [List.length_map, CG]; omega)
     have hfb := Ka b gb (by omega) hmb sy.1 ((Aq o1 v).map Prod.snd) (fun l hl => by
      obtain ⟨x, hx, rfl⟩ := List.mem_map.1 hl
      exact (hbelow x hx).2) (by rw [List.length_map, CG]; omega)
     have hnx : nxt a b sy.1 (Aq o1 v) = (a.ending sy.1 ((Aq o1 v).map Prod.fst), b.ending sy.1 ((Aq o1 v).map Prod.snd)) := rfl
     have hnl : ∀ i ∈ o1, i.1.length = (nxt a b sy.1 (Aq o1 v)).1.length ∧ i.2.length = (nxt a b sy.1 (Aq o1 v)).2.length := fun i hi => by
      obtain ⟨p, q⟩ := (hok1.gen i hi).len
      rw [hnx]
      exact ⟨by rw [p, Au.ending_length], by rw [q, Au.ending_length]⟩
     obtain ⟨g1, g2⟩ := Je hnl
     have g3 := Oo hnl
     have hyes : nxt a b sy.1 (Aq o1 v) ∈ o1 → H4 o1 (nxt a b sy.1 (Aq o1 v)) = o1 := fun h => by unfold H4; exact if_pos h
     have hno : ¬ nxt a b sy.1 (Aq o1 v) ∈ o1 → H4 o1 (nxt a b sy.1 (Aq o1 v)) = o1 ++ [nxt a b sy.1 (Aq o1 v)] := fun h => by unfold H4; exact if_neg h
     have hsnoc : (pre ++ [v]).foldl (C5 a b sy.1) o = H4 o1 (nxt a b sy.1 (Aq o1 v)) := hsnoc
     obtain ⟨jn, hjn⟩ : ∃ jn, nxt a b sy.1 (Aq o1 v) = jn := ⟨_, rfl⟩
     rw [hjn] at g1 g2 g3 hsnoc hnx hyes hno
     have hk1 : KV.p (.i (bN jn.1 : Int)) (.i (bN jn.2 : Int)) = ME jn := rfl
     obtain ⟨j1, j2⟩ := jn
     obtain ⟨rfl, rfl⟩ : j1 = _ ∧ j2 = _ := Prod.mk.injEq .. ▸ hnx
     by_cases hin : (a.ending sy.1 ((Aq o1 v).map Prod.fst), b.ending sy.1 ((Aq o1 v).map Prod.snd)) ∈ o1
     ·rw [hyes hin] at hsnoc
      have g := g1 hin
      repeat' (first | (with_reducible first | refine W ?_ | refine Z0 ?_ | ((first | refine Wo fun K hK => ?_ | refine Wp ?_ | refine Wq ?_ | refine Wr ?_); (try simp only [go_sem, fN, seval, eT, iR, y3, y4, y7, y8, y9, y11, y13, y14, y32, y33, y34, z45, z53, z17, r3, r4, r7, r8, r9, r11, r18, htl2, hl45, hl53, AL, BR, DP, KV.of2, KV.of1, hk1, g, Fb, dT, dF, nL]); (repeat refine Ai ?_); (try (refine hK _ ?_; clear hK K)); try refine iC ?_)) | refine Cg _ (hfa) ?_ | refine Cg _ (hfb) ?_)
      refine G_ (AF (Cc S o0.length o1) 1502 (some (.mrow 3 1 (AZ v)))) (by rw [hW]; exact hWc) (by rw [AD _ (by decide)]; exact hU) (fun i hi => ?_) ⟨_, rfl, ?_, by rw [hsnoc]⟩
      ·rw [hW]
       show AF (AF S2 17 _) 17 _ i = S1 i
       rw [AD _ (by omega), AD _ (by omega)]
       exact hS2 i hi
      ·rw [Bj (by decide) (by decide) (by decide) (by decide)]
       show upS S (up1 502) = none
       rw [Bt, s502]
       rfl
     ·rw [hno hin] at hsnoc
      have g := g2 hin
      have g4 := g3 hin
      repeat' (first | (with_reducible first | refine W ?_ | refine Z0 ?_ | ((first | refine Wo fun K hK => ?_ | refine Wp ?_ | refine Wq ?_ | refine Wr ?_); (try simp only [go_sem, fN, seval, eT, iR, y3, y4, y7, y8, y9, y11, y13, y14, y32, y33, y34, z45, z53, z17, r3, r4, r7, r8, r9, r11, r18, r500, htl2, hl45, hl53, hol1, AL, BR, DP, KV.of2, KV.of1, hk1, g, g4, Fb, dT, dF, nL]); (repeat refine Ai ?_); (try (refine hK _ ?_; clear hK K)); try refine iC ?_)) | refine Cg _ (hfa) ?_ | refine Cg _ (hfb) ?_)
      obtain ⟨jn, hjn⟩ : ∃ jn : J, (a.ending sy.1 ((Aq o1 v).map Prod.fst), b.ending sy.1 ((Aq o1 v).map Prod.snd)) = jn := ⟨_, rfl⟩
      refine G_ (AF (Cc S o0.length (o1 ++ [jn])) 1502 (some (.mrow 3 1 (AZ v)))) (Ay (Ay GV (by decide) rfl) (by decide) hb1) (by rw [AD _ (by decide), Bj (by decide) (by decide) (by decide) (by decide)]; show upS S (up1 501) = none; rw [Bt, s501]; rfl) (fun i hi => ?_) ⟨_, rfl, ?_, by rw [hsnoc, hjn]⟩
      ·show AF (AF (AF (AF (AF (AF S2 17 _) 17 _) 1018 _) 1500 _) 1007 _) 1009 _ i = _
       by_cases c1 : i = 1009
       ·subst c1
        rw [AB, AD _ (by decide), AD _ (by decide)]
        show _ = AF _ 1009 _ 1009
        rw [AB]
        have hle := hpre1.length_le
        have hle := hpre1.length_le
        have hle := hpre1.length_le
        have hle := hpre1.length_le
        simp
        omega
       by_cases c2 : i = 1007
       ·subst c2
        rw [AD _ (by decide), AB, AD _ (by decide), AD _ (by decide)]
        show _ = AF (AF (AF _ 1007 _) 1018 _) 1009 _ 1007
        rw [AD _ (by decide), AD _ (by decide), AB]
        simp
       by_cases c3 : i = 1500
       ·subst c3
        rw [AD _ (by decide), AD _ (by decide), AB, AD _ (by decide), AD _ (by decide)]
        show _ = AF (AF (AF (AF _ 1500 _) 1007 _) 1018 _) 1009 _ 1500
        rw [AD _ (by decide), AD _ (by decide), AD _ (by decide), AB, ← hjn, JQ, List.map_append]
        rfl
       by_cases c4 : i = 1018
       ·subst c4
        rw [AD _ (by decide), AD _ (by decide), AD _ (by decide), AB, AD _ (by decide), AD _ (by decide)]
        show _ = AF (AF _ 1018 _) 1009 _ 1018
        rw [AD _ (by decide), AB, hjn]
       rw [AD _ c1, AD _ c2, AD _ c3, AD _ c4, AD _ (by omega), AD _ (by omega), hS2 i hi, ← hW]
       by_cases c5 : i = 1501
       ·subst c5
        rw [AB, AB]
       by_cases c6 : i = 1502
       ·subst c6
        rw [AD _ c5, AB, AD _ c5, AB]
       rw [AD _ c5, AD _ c6, AD _ c5, AD _ c6, Bj c3 c2 c4 c1, Bj c3 c2 c4 c1]
      ·rw [Bj (by decide) (by decide) (by decide) (by decide)]
       show upS S (up1 502) = none
       rw [Bt, s502]
       rfl
   ·rintro U bb rfl
    rw [Mn]
    have hsy : (CH o.length sy.2).foldl (C5 a b sy.1) o = EF a b o sy := rfl
    rw [hsy]
    obtain ⟨o3, ho3⟩ : ∃ o3, EF a b o sy = o3 := ⟨_, rfl⟩
    rw [ho3] at hfold ⊢
    repeat' with_reducible first | refine W ?_ | refine Z0 ?_ | ((first | refine Wo fun K hK => ?_ | refine Wp ?_ | refine Wq ?_ | refine Wr ?_); (try simp only [go_sem, fN, seval, eT, iR, e22, dT, dF, nL]); (repeat refine Ai ?_); (try (refine hK _ ?_; clear hK K)); try refine iC ?_)
    refine AE ⟨syms.length - (k + 1), by omega, k + 1, by omega, rfl, ?_⟩
    rw [hfold]
    simp only [go_sem, fN, seval, AS.drop, AU, AC.clears, AC.clear, AC.highs, AC.high, Bool.not_false, Bool.true_and, Bool.and_self, AV.purge, AV.purges, AC.purge, AH.purge, List.contains_cons, List.contains_nil, Nat.reduceBEq, Bool.or_self, Bool.or_false, Bool.false_or, Bool.or_true, eT, iR, e2, e3, e4, e7, e8, e9, e20, e21, e22, s3, s4, s8, AL]
    rfl
  ·have hke : k = syms.length := by omega
   have hit : itJ a b syms (i + 1) = syms.foldl (EF a b) o0 := by rw [← ho0]; rfl
   rw [hke, List.take_length, ← hit] at s7 s500 s18 s9
   have hpp := Jd (a := a) (b := b) (syms := syms) o0
   have hit2 : itJ a b syms (i + 1) = HM a b syms o0 := by rw [← ho0]; rfl
   iterate 11 with_reducible first | refine W ?_ | refine Z0 ?_ | ((first | refine Wo fun K hK => ?_ | refine Wp ?_ | refine Wq ?_ | refine Wr ?_); (try simp only [go_sem, fN, seval, eT, iR, e2, e3, e4, e7, e8, e9, e22, e21, s9, hlt, dT, dF, nL]); (repeat refine Ai ?_); (try (refine hK _ ?_; clear hK K)); try refine iC ?_)
   refine W ?_
   refine Wo (fun K hK => ?_)
   (try simp only [go_sem, fN, seval, eT, iR, e9, s9])
   (repeat with_reducible refine Ai ?_)
   refine hK _ ?_
   clear hK K
   refine W ?_
   refine IWP.ghost (Ae.drop [9] _ (by decide)) ?_
   refine IWP.at_ (fun env1 S1 => env1 2 = Cx syms ∧ env1 3 = .one (.ptr 3 1 0 0) ∧ env1 4 = .one (.ptr 4 1 0 0) ∧ env1 7 = .one (.ptr 7 1 0 0) ∧ env1 8 = .one (.ptr 8 1 0 0) ∧ env1 77 = As (decide (o0.length < (itJ a b syms (i + 1)).length)) ∧ S1 3 = some (AL a) ∧ S1 4 = some (AL b) ∧
    S1 7 = some (.box 61 [.row 500 (itJ a b syms (i + 1)).length]) ∧ S1 500 = some (JQ (itJ a b syms (i + 1))) ∧ S1 8 = some (.box 97 [.mptr 18]) ∧ S1 18 = some (Kn (itJ a b syms (i + 1))) ∧ S1 9 = none ∧ S1 11 = none ∧ S1 501 = none ∧ S1 502 = none)
    (by simp only [go_sem, fN, seval, AS.drop, AU, AC.clears, AC.clear, AC.highs, AC.high, Bool.not_false, Bool.true_and, Bool.and_self, AV.purge, AV.purges, AC.purge, AH.purge, List.contains_cons, List.contains_nil, Nat.reduceBEq, Bool.or_self, Bool.or_false, Bool.false_or, Bool.or_true, eT, iR, e2, e3, e4, e7, e8, s3, s4, s7, s500, s8, s18, s11, s501, s502, AL]) ?_
   clear e2 e3 e4 e7 e8 e9 e20 e21 e22 s3 s4 s7 s500 s8 s18 s9 s11 s501 s502
   rintro env1 S1 ⟨e2, e3, e4, e7, e8, e77, s3, s4, s7, s500, s8, s18, s9, s11, s501, s502⟩
   repeat' with_reducible first | refine W ?_ | refine Z0 ?_ | ((first | refine Wo fun K hK => ?_ | refine Wp ?_ | refine Wq ?_ | refine Wr ?_); (try simp only [go_sem, fN, seval, eT, iR, e77, s9, dT, dF, nL]); (repeat refine Ai ?_); (try (refine hK _ ?_; clear hK K)); try refine iC ?_)
   refine AE ⟨k0 + 2 - (i + 1), by omega, i + 1, by omega, rfl, e2, e3, e4, e7, e8, rfl, by simp only [go_sem, fN, seval, eT, iR, s3], by simp only [go_sem, fN, seval, eT, iR, s4], by simp only [go_sem, fN, seval, eT, iR, s7], by simp only [go_sem, fN, seval, eT, iR, s500], by simp only [go_sem, fN, seval, eT, iR, s8], by simp only [go_sem, fN, seval, eT, iR, s18], ⟨decide (o0.length < (itJ a b syms (i + 1)).length), by simp only [go_sem, fN, seval, eT, iR], fun h => ⟨i, rfl, ?_⟩, fun h => ?_⟩, by simp only [go_sem, fN, seval, eT, iR, s11], by simp only [go_sem, fN, seval, eT, iR, s501], by simp only [go_sem, fN, seval, eT, iR, s502]⟩
   ·have h : ¬ o0.length < (itJ a b syms (i + 1)).length := by simpa using h
    rw [hit2] at h ⊢
    have := hpp.eq_of_length (by have := hpp.length_le; omega)
    rw [ho0]
    exact this.symm
   ·have h : o0.length < (itJ a b syms (i + 1)).length := by simpa using h
    rcases Nat.lt_or_ge i k0 with hlt | hge
    ·exact hlt
    ·exfalso
     have hik2 : i = k0 := by omega
     subst hik2
     rw [hst, ho0] at h
     omega

theorem K_ (l : List Au) (hl : l.length ≤ 1000) (hm : ∀ a ∈ l, a.moves.length ≤ 100000) (hf : ∀ a ∈ l, ∀ m ∈ a.moves, m.frm.length ≤ 100000) : Ap Try.prog 30 [Ov l] (AN (CW l)) := by
 refine JK.ac fun C hC => ?_
 unfold FQ
 repeat' with_reducible first | refine W ?_ | refine Z0 ?_ | ((first | refine Wo fun K hK => ?_ | refine Wp ?_ | refine Wq ?_ | refine Wr ?_); (try simp only [go_sem, fN, seval, eT, iR, dT, dF, nL]); (repeat refine Ai ?_); (try (refine hK _ ?_; clear hK K)); try refine iC ?_)
 refine IWP.loopD [4] (fun q s => ∃ k, k ≤ l.length ∧ q = l.length - k ∧ (l.take k).all Ak = true ∧ s.env 7 = Ov l ∧ s.env 8 = AN l.length ∧ s.env 9 = AN k ∧ s.S 4 = none ∧ s.S 6 = none) l.length ⟨0, Nat.zero_le _, rfl, rfl, rfl, by simp only [go_sem, fN, seval, eT, iR], rfl, rfl, rfl⟩ ?_
 rintro q ⟨env, S⟩ ⟨k, hk, rfl, hall, e7, e8, e9, s4, s6⟩
 simp only at e7 e8 e9 s4 s6
 by_cases hlt : (k : Int) < l.length
 ·obtain ⟨a, ha⟩ := Ad (show k < l.length by omega)
  have ham := AR ha
  have h1 := hm a ham
  have hno : Ak a = false → CW l = 3 := fun h => if_neg (by
   rw [List.all_eq_true]
   intro h'
   rw [h' a ham] at h
   cases h)
  have hsn : (l.take (k + 1)).all Ak = Ak a := CZ ha hall
  by_cases h3 : (3 : Int) < a.states
  ·have hb : Ak a = false := by
    unfold Ak
    rw [decide_eq_false (by omega)]
    rfl
   rw [hno hb]
   repeat' with_reducible first | refine W ?_ | refine Z0 ?_ | ((first | refine Wo fun K hK => ?_ | refine Wp ?_ | refine Wq ?_ | refine Wr ?_); (try simp only [go_sem, fN, seval, eT, iR, e7, e8, e9, s4, s6, hlt, ha, H5, h3, dT, dF, nL]); (repeat refine Ai ?_); (try (refine hK _ ?_; clear hK K)); try refine iC ?_)
   simp only [go_sem, fN, seval, Ab, AS.result, AI, AJ, AW]
  ·repeat' with_reducible first | refine W ?_ | refine Z0 ?_ | ((first | refine Wo fun K hK => ?_ | refine Wp ?_ | refine Wq ?_ | refine Wr ?_); (try simp only [go_sem, fN, seval, eT, iR, e7, e8, e9, s4, s6, hlt, ha, H5, h3, dT, dF, nL]); (repeat refine Ai ?_); (try (refine hK _ ?_; clear hK K)); try refine iC ?_)
   refine IWP.loopD [6] (fun q s => ∃ i, i ≤ a.moves.length ∧ q = a.moves.length - i ∧ (a.moves.take i).all (fun m => decide (m.frm.length ≤ 2)) = true ∧ s.env 7 = Ov l ∧ s.env 8 = AN l.length ∧ s.env 9 = AN k ∧ s.env 17 = .one (.st (.list (a.moves.map Aj))) ∧ s.env 18 = AN a.moves.length ∧ s.env 19 = AN i ∧ s.S 6 = none) a.moves.length
    ⟨0, Nat.zero_le _, rfl, rfl, by simp only [go_sem, fN, seval, eT, iR, e7], by simp only [go_sem, fN, seval, eT, iR, e8], by simp only [go_sem, fN, seval, eT, iR, e9], by simp only [go_sem, fN, seval, eT, iR], by simp only [go_sem, fN, seval, eT, iR], by simp only [go_sem, fN, seval, eT, iR], by simp only [go_sem, fN, seval, eT, iR, s6]⟩ ?_
   clear e7 e8 e9 s4 s6
   rintro q ⟨env, S⟩ ⟨i, hi, rfl, hai, e7, e8, e9, e17, e18, e19, s6⟩
   simp only at e7 e8 e9 e17 e18 e19 s6
   by_cases hil : (i : Int) < a.moves.length
   ·obtain ⟨m, hmi⟩ := Ad (show i < a.moves.length by omega)
    have hmm := AR hmi
    have hfm := hf a ham m hmm
    have hsn2 : (a.moves.take (i + 1)).all (fun m => decide (m.frm.length ≤ 2)) = decide (m.frm.length ≤ 2) := CZ hmi hai
    by_cases h2 : (2 : Int) < m.frm.length
    ·have hb : Ak a = false := by
      unfold Ak
      rw [IS hmm (p := fun m => decide (m.frm.length ≤ 2)) (decide_eq_false (by omega))]
      simp
     rw [hno hb]
     have h2' : 2 < m.frm.length := by omega
     repeat' with_reducible first | refine W ?_ | refine Z0 ?_ | ((first | refine Wo fun K hK => ?_ | refine Wp ?_ | refine Wq ?_ | refine Wr ?_); (try simp only [go_sem, fN, seval, eT, iR, e7, e8, e9, e17, e18, e19, s6, hil, hmi, Aj, h2, h2', dT, dF, nL]); (repeat refine Ai ?_); (try (refine hK _ ?_; clear hK K)); try refine iC ?_)
     simp only [go_sem, fN, seval, Ab, AS.result, AI, AJ, AW]
    ·have h2' : ¬ 2 < m.frm.length := by omega
     repeat' with_reducible first | refine W ?_ | refine Z0 ?_ | ((first | refine Wo fun K hK => ?_ | refine Wp ?_ | refine Wq ?_ | refine Wr ?_); (try simp only [go_sem, fN, seval, eT, iR, e7, e8, e9, e17, e18, e19, s6, hil, hmi, Aj, h2, h2', dT, dF, nL]); (repeat refine Ai ?_); (try (refine hK _ ?_; clear hK K)); try refine iC ?_)
     refine AE ⟨a.moves.length - (i + 1), by omega, i + 1, by omega, rfl, by rw [hsn2]; exact decide_eq_true (by omega), ?_⟩
     simp only [go_sem, fN, seval, AS.drop, AU, AC.clears, AC.clear, AC.highs, AC.high, Bool.not_false, Bool.true_and, Bool.and_self, AV.purge, AV.purges, AC.purge, AH.purge, List.contains_cons, List.contains_nil, Nat.reduceBEq, Bool.or_self, Bool.or_false, Bool.false_or, Bool.or_true, eT, iR, e7, e8, e9, e17, e18, e19, s6]
     rfl
   ·have hie : i = a.moves.length := by omega
    rw [hie, List.take_length] at hai
    repeat' with_reducible first | refine W ?_ | refine Z0 ?_ | ((first | refine Wo fun K hK => ?_ | refine Wp ?_ | refine Wq ?_ | refine Wr ?_); (try simp only [go_sem, fN, seval, eT, iR, e7, e8, e9, e17, e18, e19, s6, hil, dT, dF, nL]); (repeat refine Ai ?_); (try (refine hK _ ?_; clear hK K)); try refine iC ?_)
    refine AE ⟨l.length - (k + 1), by omega, k + 1, by omega, rfl, ?_, ?_⟩
    ·rw [hsn]
     unfold Ak
     rw [decide_eq_true (by omega), hai]
     rfl
    ·simp only [go_sem, fN, seval, AS.drop, AU, AC.clears, AC.clear, AC.highs, AC.high, Bool.not_false, Bool.true_and, Bool.and_self, AV.purge, AV.purges, AC.purge, AH.purge, List.contains_cons, List.contains_nil, Nat.reduceBEq, Bool.or_self, Bool.or_false, Bool.false_or, Bool.or_true, eT, iR, e7, e8, e9, s6]
     rfl
 ·have hke : k = l.length := by omega
  rw [hke, List.take_length] at hall
  have hE : CW l = 0 := if_pos hall
  rw [hE]
  repeat' with_reducible first | refine W ?_ | refine Z0 ?_ | ((first | refine Wo fun K hK => ?_ | refine Wp ?_ | refine Wq ?_ | refine Wr ?_); (try simp only [go_sem, fN, seval, eT, iR, e7, e8, e9, hlt, dT, dF, nL]); (repeat refine Ai ?_); (try (refine hK _ ?_; clear hK K)); try refine iC ?_)
  simp only [go_sem, fN, seval, Ab, AS.result, AI, AJ, AW]
theorem Cf {a : Au} (h : a.may 8 40 = 0) : a.moves.length ≤ 40 ∧ ∀ m ∈ a.moves, m.frm.length ≤ 4 := by
 obtain ⟨⟨_, _, h3⟩, h4, _⟩ := Au.may_ok.1 h
 exact ⟨by omega, fun m hm => (Mv.err_ok.1 (h4 m hm)).2.1⟩
theorem NY (a b : Au) : (Ah [a, b]).length ≤ a.moves.length + b.moves.length := by
 unfold Ah
 have key : ∀ l : List Sym, (BP l).length ≤ l.length := fun l => by
  induction l with
  | nil => exact Nat.le_refl _
  | cons x l ih =>
   have h1 : ∀ m : List Sym, (HG x m).length ≤ m.length + 1 := fun m => by
    induction m with
    | nil => exact Nat.le_refl _
    | cons y m ih2 =>
     unfold HG
     split
     ·simp
     ·split
      ·simp
      ·simp only [List.length_cons]; omega
   have := h1 (BP l)
   show (HG x (BP l)).length ≤ _
   simp only [List.length_cons]
   omega
 refine Nat.le_trans (key _) ?_
 simp
def Dh (a b : Au) (w : Bool) : AV := if BN a b ≠ 0 then .tup [As false, AN (BN a b)] else if CW [a, b] ≠ 0 then .tup [As false, AN (CW [a, b])] else .tup [As w, AN 0]
theorem Qc {a b : Au} (h : BN a b = 0) : a.may 8 40 = 0 ∧ b.may 8 40 = 0 := by
 unfold BN at h
 split at h
 ·rename_i h1; exact ⟨h1, h⟩
 ·rename_i h1; exact absurd h h1
theorem Om {a b : Au} (h : CW [a, b] = 0) : Ak a = true ∧ Ak b = true := by
 unfold CW at h
 split at h
 ·rename_i h1
  simpa using h1
 ·cases h
theorem Mt (a b : Au) (hla : a.last.length ≤ 100000) (hlb : b.last.length ≤ 100000) : Ap Try.prog 12 [aAu a, aAu b] (Dh a b (Ge a b)) := by
 have hp := Rv a b
 unfold Dh
 by_cases h1 : BN a b = 0
 case neg =>
  rw [if_pos h1]
  refine DJ.ac fun C hC => ?_
  unfold CM
  repeat' (first | (with_reducible first | refine W ?_ | refine Z0 ?_ | ((first | refine Wo fun K hK => ?_ | refine Wp ?_ | refine Wq ?_ | refine Wr ?_); (try simp only [go_sem, fN, seval, eT, iR, h1, dT, dF, nL]); (repeat refine Ai ?_); (try (refine hK _ ?_; clear hK K)); try refine iC ?_)) | refine Cg _ (hp) ?_)
  simp only [go_sem, fN, seval, Ab, AS.result, AI, AJ, AW]
 case pos =>
  rw [if_neg (fun h => h h1)]
  rw [h1] at hp
  obtain ⟨ma, mb⟩ := Qc h1
  have ga := Au.may_good ma
  have gb := Au.may_good mb
  obtain ⟨a1, a2⟩ := Cf ma
  obtain ⟨b1, b2⟩ := Cf mb
  have hsm := K_ [a, b] (by simp) (fun c hc => by
   simp only [List.mem_cons, List.not_mem_nil, or_false] at hc
   rcases hc with rfl | rfl <;> omega) (fun c hc m hm => by
   simp only [List.mem_cons, List.not_mem_nil, or_false] at hc
   rcases hc with rfl | rfl
   ·have := a2 m hm; omega
   ·have := b2 m hm; omega)
  by_cases h2 : CW [a, b] = 0
  case neg =>
   rw [if_pos h2]
   refine DJ.ac fun C hC => ?_
   unfold CM
   repeat' (first | (with_reducible first | refine W ?_ | refine Z0 ?_ | ((first | refine Wo fun K hK => ?_ | refine Wp ?_ | refine Wq ?_ | refine Wr ?_); (try simp only [go_sem, fN, seval, eT, iR, h2, dT, dF, nL]); (repeat refine Ai ?_); (try (refine hK _ ?_; clear hK K)); try refine iC ?_)) | refine Cg _ (hp) ?_ | refine Cg _ (hsm) ?_)
   simp only [go_sem, fN, seval, Ab, AS.result, AI, AJ, AW]
  case pos =>
   rw [if_neg (fun h => h h2)]
   rw [h2] at hsm
   obtain ⟨sa, sb⟩ := Om h2
   have hs2 := IG sa sb
   have hsy := J5 [a, b] (by simp) (fun c hc => by
    simp only [List.mem_cons, List.not_mem_nil, or_false] at hc
    rcases hc with rfl | rfl <;> omega) (fun c hc m hm => by
    simp only [List.mem_cons, List.not_mem_nil, or_false] at hc
    rcases hc with rfl | rfl
    ·have := a2 m hm; omega
    ·have := b2 m hm; omega)
   have hsl := NY a b
   have hre := OA a b ga gb (Aa sa) (Aa sb) (by omega) (by omega) (Ah [a, b]) hs2 (by omega)
   have hok := FL (a := a) (b := b) hs2
   have hlen := hok.len (Aa sa) (Aa sb)
   have hlA := I4 a ga (by have := Aa sa; omega) hla
   have hlB := I4 b gb (by have := Aa sb; omega) hlb
   have hfa := fun x => Ie ga x
   have hfb := fun x => Ie gb x
   unfold Ge
   obtain ⟨R, hR⟩ : ∃ R, A7 a b (Ah [a, b]) = R := ⟨_, rfl⟩
   rw [hR] at hre hlen
   rw [hR]
   refine DJ.ac fun C hC => ?_
   unfold CM
   repeat' (first | (with_reducible first | refine W ?_ | refine Z0 ?_ | ((first | refine Wo fun K hK => ?_ | refine Wp ?_ | refine Wq ?_ | refine Wr ?_); (try simp only [go_sem, fN, seval, eT, iR, dT, dF, nL]); (repeat refine Ai ?_); (try (refine hK _ ?_; clear hK K)); try refine iC ?_)) | refine Cg _ (hp) ?_ | refine Cg _ (hsm) ?_ | refine Cg _ (hsy) ?_ | refine Cg _ (hre) ?_)
   refine IWP.loopD [9] (fun q s => ∃ k, k ≤ R.length ∧ q = R.length - k ∧ (R.take k).all (fun j => !(a.fin j.1 && !b.fin j.2)) = true ∧ s.env 2 = .one (.ptr 2 1 0 0) ∧ s.env 3 = .one (.ptr 3 1 0 0) ∧ s.env 29 = aJs R ∧ s.env 30 = AN R.length ∧ s.env 31 = AN k ∧ s.S 2 = some (AL a) ∧ s.S 3 = some (AL b) ∧ s.S 9 = none) R.length ⟨0, Nat.zero_le _, rfl, rfl, rfl, rfl, rfl, by simp only [go_sem, fN, seval, eT, iR], rfl, by simp only [go_sem, fN, seval, eT, iR]; rfl, by simp only [go_sem, fN, seval, eT, iR]; rfl, rfl⟩ ?_
   rintro q ⟨env, S⟩ ⟨k, hk, rfl, hall, e2, e3, e29, e30, e31, s2, s3, s9⟩
   simp only at e2 e3 e29 e30 e31 s2 s3 s9
   by_cases hlt : (k : Int) < R.length
   ·obtain ⟨j, hj⟩ := Ad (show k < R.length by omega)
    have hjm := AR hj
    have hsn : (R.take (k + 1)).all (fun j => !(a.fin j.1 && !b.fin j.2)) = !(a.fin j.1 && !b.fin j.2) := CZ hj hall
    have fa := hfa j.1
    have fb := hfb j.2
    by_cases hA : ((bN j.1 &&& bN a.lastB : Nat) : Int) = 0
    ·have hA' : a.fin j.1 = false := by
      cases hx : a.fin j.1 with
      | false => rfl
      | true => exact absurd hA (by have := fa.2 hx; omega)
     repeat' (first | (with_reducible first | refine W ?_ | refine Z0 ?_ | ((first | refine Wo fun K hK => ?_ | refine Wp ?_ | refine Wq ?_ | refine Wr ?_); (try simp only [go_sem, fN, seval, eT, iR, e2, e3, e29, e30, e31, s2, s3, s9, AL, hlt, hj, DQ, G4, IntKind.bits, hA, Int.toNat_natCast, dT, dF, nL]); (repeat refine Ai ?_); (try (refine hK _ ?_; clear hK K)); try refine iC ?_)) | refine Cg _ (hlA) ?_ | refine Cg _ (hlB) ?_)
     refine AE ⟨R.length - (k + 1), by omega, k + 1, by omega, rfl, by rw [hsn, hA']; rfl, ?_⟩
     simp only [go_sem, fN, seval, AS.drop, AU, AC.clears, AC.clear, AC.highs, AC.high, Bool.not_false, Bool.true_and, Bool.and_self, AV.purge, AV.purges, AC.purge, AH.purge, List.contains_cons, List.contains_nil, Nat.reduceBEq, Bool.or_self, Bool.or_false, Bool.false_or, Bool.or_true, eT, iR, e2, e3, e29, e30, e31, s2, s3, s9, AL]
     rfl
    ·have hA' : a.fin j.1 = true := fa.1 (by omega)
     by_cases hB : ((bN j.2 &&& bN b.lastB : Nat) : Int) = 0
     ·have hB' : b.fin j.2 = false := by
       cases hx : b.fin j.2 with
       | false => rfl
       | true => exact absurd hB (by have := fb.2 hx; omega)
      have hw : R.all (fun j => !(a.fin j.1 && !b.fin j.2)) = false := IS hjm (p := fun j => !(a.fin j.1 && !b.fin j.2)) (by rw [hA', hB']; rfl)
      rw [hw]
      repeat' (first | (with_reducible first | refine W ?_ | refine Z0 ?_ | ((first | refine Wo fun K hK => ?_ | refine Wp ?_ | refine Wq ?_ | refine Wr ?_); (try simp only [go_sem, fN, seval, eT, iR, e2, e3, e29, e30, e31, s2, s3, s9, AL, hlt, hj, DQ, G4, IntKind.bits, hA, hB, Int.toNat_natCast, dT, dF, nL]); (repeat refine Ai ?_); (try (refine hK _ ?_; clear hK K)); try refine iC ?_)) | refine Cg _ (hlA) ?_ | refine Cg _ (hlB) ?_)
      simp only [go_sem, fN, seval, Ab, AS.result, AI, AJ, AW]
     ·have hB' : b.fin j.2 = true := fb.1 (by omega)
      repeat' (first | (with_reducible first | refine W ?_ | refine Z0 ?_ | ((first | refine Wo fun K hK => ?_ | refine Wp ?_ | refine Wq ?_ | refine Wr ?_); (try simp only [go_sem, fN, seval, eT, iR, e2, e3, e29, e30, e31, s2, s3, s9, AL, hlt, hj, DQ, G4, IntKind.bits, hA, hB, Int.toNat_natCast, dT, dF, nL]); (repeat refine Ai ?_); (try (refine hK _ ?_; clear hK K)); try refine iC ?_)) | refine Cg _ (hlA) ?_ | refine Cg _ (hlB) ?_)
      refine AE ⟨R.length - (k + 1), by omega, k + 1, by omega, rfl, by rw [hsn, hA', hB']; rfl, ?_⟩
      simp only [go_sem, fN, seval, AS.drop, AU, AC.clears, AC.clear, AC.highs, AC.high, Bool.not_false, Bool.true_and, Bool.and_self, AV.purge, AV.purges, AC.purge, AH.purge, List.contains_cons, List.contains_nil, Nat.reduceBEq, Bool.or_self, Bool.or_false, Bool.false_or, Bool.or_true, eT, iR, e2, e3, e29, e30, e31, s2, s3, s9, AL]
      rfl
   ·have hke : k = R.length := by omega
    rw [hke, List.take_length] at hall
    rw [hall]
    repeat' with_reducible first | refine W ?_ | refine Z0 ?_ | ((first | refine Wo fun K hK => ?_ | refine Wp ?_ | refine Wq ?_ | refine Wr ?_); (try simp only [go_sem, fN, seval, eT, iR, e2, e3, e29, e30, e31, hlt, dT, dF, nL]); (repeat refine Ai ?_); (try (refine hK _ ?_; clear hK K)); try refine iC ?_)
    simp only [go_sem, fN, seval, Ab, AS.result, AI, AJ, AW]

set_option maxHeartbeats 2000000
def auZ : Au := ⟨0, [], []⟩
theorem LX : auZ.Good := ⟨Int.le_refl _, by simp [auZ], by simp [auZ], by simp [auZ]⟩
def He : Nat → List J → List (KV × AV)
 | _, [] => []
 | k, j :: l => (.i (bN j.1 : Int), AN k) :: He (k + 1) l
abbrev Ky (l : List J) : AH := .map (some (.int .u64)) (He 0 l)
theorem Jq : ∀ (l : List J) (k : Nat) (j : J), He k (l ++ [j]) = He k l ++ [(.i (bN j.1 : Int), AN ((k + l.length : Nat) : Int))]
 | [], k, j => by simp [He]
 | x :: l, k, j => by
  rw [List.cons_append, He, Jq l (k + 1) j, He, List.cons_append, List.length_cons, show k + 1 + l.length = k + (l.length + 1) by omega]
theorem Gs {c : Nat} : ∀ (l : List J) (k : Nat) (x : List Bool), (∀ j ∈ l, j.1.length = c) → x.length = c → B3 (He k l) (.i (bN x : Int)) = if x ∈ l.map Prod.fst then some (AN ((k + (l.map Prod.fst).idxOf x : Nat) : Int)) else none
 | [], k, x, _, _ => by simp [He, B3]
 | j :: l, k, x, hl, hx => by
  have hj := hl j (by simp)
  rw [He, B3]
  by_cases e : j.1 = x
  ·rw [if_pos (by rw [e]), if_pos (by simp [e])]
   simp [e]
  ·have e2 : ¬ KV.i (bN j.1 : Int) = KV.i (bN x : Int) := fun h => e (IA (by omega) (by have := KV.i.inj h; omega))
   have e3 : ¬ x = j.1 := fun h => e h.symm
   rw [if_neg e2, Gs l (k + 1) x (fun j hj => hl j (by simp [hj])) hx]
   simp only [List.map_cons, List.mem_cons, e3, false_or]
   split
   ·have h4 : (j.1 :: l.map Prod.fst).idxOf x = (l.map Prod.fst).idxOf x + 1 := by
     rw [List.idxOf_cons, show (j.1 == x) = false from beq_eq_false_iff_ne.2 e]
     rfl
    rw [h4, show k + 1 + (l.map Prod.fst).idxOf x = k + ((l.map Prod.fst).idxOf x + 1) by omega]
   ·rfl
def prog (l : List Nat) (n k : Nat) : List Nat := l.take k ++ List.replicate (n - k) 0
theorem Jj (l : List Nat) (n : Nat) : prog l n 0 = List.replicate n 0 := by simp [prog]
theorem MD {l : List Nat} {n : Nat} (h : l.length = n) : prog l n n = l := by simp [prog, ← h]
theorem F8 {l : List Nat} {n k : Nat} (h : l.length = n) (hk : k ≤ n) : (prog l n k).length = n := by
 simp only [prog, List.length_append, List.length_take, List.length_replicate]; omega
theorem G3 {l : List Nat} {n k v : Nat} (h : l.length = n) (hk : l[k]? = some v) : (prog l n k).set k v = prog l n (k + 1) := by
 have hlt := E8 hk
 unfold prog
 rw [show n - k = (n - (k + 1)) + 1 by omega, List.replicate_succ, List.set_append_right _ _ (by simp; omega), Af hk]
 simp [Nat.min_eq_left (Nat.le_of_lt hlt)]
theorem PV {l : List Nat} {n k : Nat} (h : l.length = n) (hk : l[k]? = some 0) : prog l n (k + 1) = prog l n k := by
 rw [← G3 h hk]
 have hlt := E8 hk
 unfold prog
 rw [show n - k = (n - (k + 1)) + 1 by omega, List.replicate_succ, List.set_append_right _ _ (by simp; omega)]
 simp [Nat.min_eq_left (Nat.le_of_lt hlt)]
theorem Hq (n : Nat) : AZ (List.replicate n 0) = List.replicate n [.int .i64 0] := by simp [AZ]
def F3 : Nat → List ByteArray → List (KV × AV)
 | _, [] => []
 | k, n :: l => (.s n, AN k) :: F3 (k + 1) l
abbrev NK (l : List ByteArray) : AH := .map none (F3 0 l)
theorem Hr : ∀ (l : List ByteArray) (k : Nat), (F3 k l).length = l.length
 | [], _ => rfl
 | n :: l, k => by rw [F3, List.length_cons, List.length_cons, Hr l]
theorem D1 : ∀ (l : List ByteArray) (k : Nat) (n : ByteArray), B3 (F3 k l) (.s n) = if CA l n < l.length then some (AN ((k + CA l n : Nat) : Int)) else none
 | [], k, n => by simp [F3, B3, CA]
 | x :: l, k, n => by
  rw [F3, B3, CA]
  by_cases e : x = n
  ·rw [if_pos (congrArg KV.s e), if_pos e]
   simp
  ·rw [if_neg (fun h => e (KV.s.inj h)), if_neg e, D1 l (k + 1) n, List.length_cons]
   by_cases h : CA l n < l.length
   ·rw [if_pos h, if_pos (by omega), show k + 1 + CA l n = k + (CA l n + 1) by omega]
   ·rw [if_neg h, if_neg (by omega)]
theorem Jf : ∀ (l : List ByteArray) (k : Nat) (n : ByteArray), F3 k (l ++ [n]) = F3 k l ++ [(.s n, AN ((k + l.length : Nat) : Int))]
 | [], k, n => by simp [F3]
 | x :: l, k, n => by
  rw [List.cons_append, F3, Jf l (k + 1) n, F3, List.cons_append, List.length_cons, show k + 1 + l.length = k + (l.length + 1) by omega]
theorem Ju {l : List ByteArray} {n : ByteArray} (h : ¬ CA l n < l.length) : Fh (F3 0 l) (.s n) (AN l.length) = F3 0 (GP l n) := by
 rw [FF (by rw [D1, if_neg h]), show GP l n = l ++ [n] from if_neg h, Jf, Nat.zero_add]
theorem Lo (l m : List Nat) : BK l ++ BK m = BK (l ++ m) := by
 apply ByteArray.ext
 simp [BK]
theorem Jw (l : List Nat) : (BK l).size = l.length := by
 show (l.map _).toArray.size = _
 simp
theorem IP {p : Nat} (h : p < 100) : Utf8.encode ((p : Int) + 1) = BK [p] := by
 have hc : (if Utf8.valid ((p : Int) + 1) = true then ((p : Int) + 1).toNat else Utf8.runeError) = p + 1 := by
  rw [if_pos (by unfold Utf8.valid; simp; omega)]
  omega
 unfold Utf8.encode
 simp only [hc]
 rw [if_pos (by omega)]
 rfl
theorem Jp {α : Type} {f : List Nat → α → List Nat} {c : Nat} (hf : ∀ key x, (f key x).length ≤ key.length + c) : ∀ (l : List α) (key : List Nat), (l.foldl f key).length ≤ key.length + l.length * c
 | [], key => by simp
 | x :: l, key => by
  have h1 := Jp hf l (f key x)
  have h2 := hf key x
  simp only [List.foldl_cons, List.length_cons, Nat.add_mul, Nat.one_mul]
  omega
theorem Fo {α : Type} {f : List Nat → α → List Nat} {c : Nat} : ∀ (l : List α) (key : List Nat), (∀ key, ∀ x ∈ l, (f key x).length ≤ key.length + c) → (l.foldl f key).length ≤ key.length + l.length * c
 | [], key, _ => by simp
 | x :: l, key, hf => by
  have h1 := Fo l (f key x) fun key y hy => hf key y (by simp [hy])
  have h2 := hf key x (by simp)
  simp only [List.foldl_cons, List.length_cons, Nat.add_mul, Nat.one_mul]
  omega
theorem Iz {n m : Nat} {l : List Nat} (h : l ∈ CH n m) : l.length ≤ 2 := by
 unfold CH at h
 obtain ⟨k, _, rfl⟩ := List.mem_map.1 h
 unfold BF
 split <;> simp
theorem MI {a : Au} {R : List J} {part : List Nat} {n : ByteArray} {i : Nat} (key l : List Nat) : (Fp a R part n i key l).length = key.length + l.length := by simp [Fp]
theorem L7 {n m : Nat} (hn : n ≤ 64) : (CH n m).length ≤ 4096 := by
 rw [CH, List.length_map, List.length_range]
 unfold C1
 split
 ·omega
 ·omega
 ·have := Nat.mul_le_mul hn hn
  omega
theorem Nl {s : AS} {ds : List Nat} (hds : ∀ d ∈ ds, d < 1000) {T : AA} (hT : Al T) (h : ∀ i, 1000 ≤ i → s.S i = T i) : ∀ i, 1000 ≤ i → (s.drop ds).S i = T i := fun i hi => by
 show AU ds s.S i = T i
 unfold AU
 rw [CI hds hi, h i hi]
 cases hb : T i with
 | none => rfl
 | some b => simp [AH.purge_high hds (hT i b hb).2]
theorem RS {l : List Nat} {c x : Nat} (h : l[c]? = some x) : l.set c x = l := by
 refine List.ext_getElem? fun j => ?_
 by_cases e : c = j
 ·subst e
  rw [List.getElem?_set_self (E8 h), h]
 ·rw [List.getElem?_set_ne e]
def ET (S : AA) (key : List Nat) : AA := AF (upS S) 1017 (some (.box 9 [.st (.str (BK key))]))
theorem DC {S : AA} {key : List Nat} {i : Nat} (h : i ≠ 1017) : ET S key i = upS S i := AD _ h _
theorem Gg {S : AA} {key : List Nat} : Al (ET S key) := Ay (Dt S) (by decide) rfl
theorem Mq {S : AA} {key : List Nat} : dnS (ET S key) = AF S 17 (some (.box 9 [.st (.str (BK key))])) := by
 unfold ET
 rw [show (1017 : Nat) = up1 17 from rfl, E6, Iq]
 rfl
theorem RQ (a : Au) (ha : a.may 8 40 = 0) (hsm : Ak a = true) (hl : a.last.length ≤ 100000) (T : Nat) (hT : nK a (Ah [a]) (A7 a auZ (Ah [a])) T = CB a (Ah [a]) (A7 a auZ (Ah [a])) T) (hmin : ∀ t, t < T → ¬ nK a (Ah [a]) (A7 a auZ (Ah [a])) t = CB a (Ah [a]) (A7 a auZ (Ah [a])) t) :
  Ap Try.prog 13 [aAu a] (.tup [AN (nK a (Ah [a]) (A7 a auZ (Ah [a])) T : Nat), AN 0]) := by
 have ga := Au.may_good ha
 obtain ⟨a1, a2⟩ := Cf ha
 have h3 := Aa hsm
 have cC := DF a
 rw [ha] at cC
 have cS := K_ [a] (by simp) (fun c hc => by rw [List.mem_singleton.1 hc]; omega) (fun c hc m hm => by rw [List.mem_singleton.1 hc] at hm; have := a2 m hm; omega)
 rw [show CW [a] = 0 from if_pos (by simp [hsm])] at cS
 have cY := J5 [a] (by simp) (fun c hc => by rw [List.mem_singleton.1 hc]; omega) (fun c hc m hm => by rw [List.mem_singleton.1 hc] at hm; have := a2 m hm; omega)
 have hs2 : ∀ s ∈ Ah [a], s.2 ≤ 2 := fun s hs => by
  obtain ⟨c, hc, m, hm, rfl⟩ := Cl.1 hs
  rw [List.mem_singleton.1 hc] at hm
  unfold Ak at hsm
  simp only [Bool.and_eq_true, List.all_eq_true, decide_eq_true_eq] at hsm
  exact hsm.2 m hm
 have hsl : (Ah [a]).length ≤ 40 := by
  have := DN (Kh (HD ([a].flatMap fun a => a.moves.map Mv.sym))) (m := [a].flatMap fun a => a.moves.map Mv.sym) (fun x hx => D8.1 hx)
  have e : ([a].flatMap fun a => a.moves.map Mv.sym).length = a.moves.length := by simp
  rw [e] at this
  exact Nat.le_trans this a1
 have cR := OA a auZ ga LX h3 (by decide) (by omega) (by decide) (Ah [a]) hs2 (by omega)
 have hok := FL (a := a) (b := auZ) hs2
 have hlen := hok.len h3 (by decide)
 have hclosed := fun {s} => Do (a := a) (b := auZ) hs2 h3 (by decide) (s := s)
 have cL := I4 a ga (by omega) hl
 have hfin := fun x => Ie ga x
 generalize Ah [a] = syms at *
 generalize A7 a auZ syms = R at *
 have hx := fun j (hj : j ∈ R) => (hok.gen j hj).len
 have hfst : (R.map Prod.fst).Nodup := by
  have := hok.nod
  rw [List.nodup_iff_pairwise_ne] at this ⊢
  rw [List.pairwise_map]
  rw [List.pairwise_iff_getElem] at this ⊢
  intro i j hi hj hij e
  refine this i j hi hj hij (Prod.ext e ?_)
  have p := (hx _ (List.getElem_mem hi)).2
  have q := (hx _ (List.getElem_mem hj)).2
  have p0 : R[i].2 = [] := List.eq_nil_of_length_eq_zero p
  have q0 : R[j].2 = [] := List.eq_nil_of_length_eq_zero q
  rw [p0, q0]
 have hRl : (R.map DQ).length = R.length := by simp
 refine Dn.acT fun C hC htop => ?_
 unfold Cp
 repeat' (first | (with_reducible first | refine W ?_ | refine Z0 ?_ | ((first | refine Wo fun K hK => ?_ | refine Wp ?_ | refine Wq ?_ | refine Wr ?_); (try simp only [go_sem, fN, seval, eT, iR, dT, dF, nL]); (repeat refine Ai ?_); (try (refine hK _ ?_; clear hK K)); try refine iC ?_)) | refine Cg _ (cC) ?_ | refine Cg _ (cS) ?_ | refine Cg _ (cY) ?_ | refine Cg _ (cR) ?_)
 refine IWP.loopD [9] (fun q s => ∃ k, k ≤ R.length ∧ q = R.length - k ∧ s.env 1 = .one (.ptr 1 1 0 0) ∧ s.env 5 = Cx syms ∧ s.env 6 = .one (.ptr 6 1 0 0) ∧ s.env 7 = .one (.ptr 7 1 0 0) ∧ s.env 46 = aJs R ∧ s.env 47 = AN R.length ∧ s.env 48 = AN k ∧ s.S 1 = some (AL a) ∧ s.S 6 = some (.box 61 [.st (.list (R.map DQ))]) ∧ s.S 7 = some (.box 70 [.mptr 45]) ∧ s.S 45 = some (Ky (R.take k)) ∧
  ∀ i ∈ [9, 10, 12, 14, 15, 16, 17, 19, 60, 78, 81, 501, 502], s.S i = none) R.length ⟨0, Nat.zero_le _, rfl, rfl, rfl, rfl, rfl, by simp only [go_sem, fN, seval, eT, iR], by simp only [go_sem, fN, seval, eT, iR, hRl], rfl, by simp only [go_sem, fN, seval, eT, iR]; rfl, by simp only [go_sem, fN, seval, eT, iR], by simp only [go_sem, fN, seval, eT, iR], by simp only [go_sem, fN, seval, eT, iR]; rfl, by simp only [go_sem, fN, seval, eT, iR]⟩ ?_
 rintro q ⟨env, S⟩ ⟨k, hk, rfl, e1, e5, e6, e7, e46, e47, e48, s1, s6, s7, s45, sn⟩
 simp only [List.forall_mem_cons, List.not_mem_nil, false_implies, implies_true, and_true] at sn
 obtain ⟨s9, s10, s12, s14, s15, s16, s17, s19, s60, s78, s81, s501, s502⟩ := sn
 simp only at e1 e5 e6 e7 e46 e47 e48 s1 s6 s7 s45 s9 s10 s12 s14 s15 s16 s17 s19 s60 s78 s81 s501 s502
 by_cases hlt : (k : Int) < R.length
 ·obtain ⟨j, hj⟩ := Ad (show k < R.length by omega)
  have hjm := AR hj
  have hnew : ¬ j.1 ∈ (R.take k).map Prod.fst := fun h => by
   obtain ⟨i, hi⟩ := List.getElem?_of_mem h
   have hik : i < k := by have := (List.getElem?_eq_some_iff.1 hi).1; simp at this; omega
   have e1 : (R.map Prod.fst)[i]? = some j.1 := by
    rw [List.map_take, List.getElem?_take_of_lt hik] at hi
    exact hi
   have e2 : (R.map Prod.fst)[k]? = some j.1 := by rw [List.getElem?_map, hj]; rfl
   rw [List.nodup_iff_pairwise_ne, List.pairwise_iff_getElem] at hfst
   have p1 := (List.getElem?_eq_some_iff.1 e1)
   have p2 := (List.getElem?_eq_some_iff.1 e2)
   exact hfst i k p1.1 p2.1 hik (by rw [p1.2, p2.2])
  have hput : Fh (He 0 (R.take k)) (.i (bN j.1 : Int)) (AN k) = He 0 (R.take (k + 1)) := by
   rw [FF (by rw [Gs (c := a.states.toNat) _ _ _ (fun i hi => (hx i (List.mem_of_mem_take hi)).1) (hx j hjm).1, if_neg hnew]), Af hj, Jq]
   simp [Nat.min_eq_left hk]
  repeat' with_reducible first | refine W ?_ | refine Z0 ?_ | ((first | refine Wo fun K hK => ?_ | refine Wp ?_ | refine Wq ?_ | refine Wr ?_); (try simp only [go_sem, fN, seval, eT, iR, e1, e5, e6, e7, e46, e47, e48, s1, s6, s7, s45, s9, s10, s12, s14, s15, s16, s17, s19, s60, s78, s81, s501, s502, hlt, hj, DQ, BR, DP, KV.of, hput, dT, dF, nL]); (repeat refine Ai ?_); (try (refine hK _ ?_; clear hK K)); try refine iC ?_)
  refine AE ⟨R.length - (k + 1), by omega, k + 1, by omega, rfl, ?_⟩
  simp only [go_sem, fN, seval, AS.drop, AU, AC.clears, AC.clear, AC.highs, AC.high, Bool.not_false, Bool.true_and, Bool.and_self, AV.purge, AV.purges, AC.purge, AH.purge, List.contains_cons, List.contains_nil, Nat.reduceBEq, Bool.or_self, Bool.or_false, Bool.false_or, Bool.or_true, eT, iR, e1, e5, e6, e7, e46, e47, e48, s1, s6, s7, s45, s9, s10, s12, s14, s15, s16, s17, s19, s60, s78, s81, s501, s502, AL]
  rfl
 have hke : k = R.length := by omega
 rw [hke, List.take_length] at s45
 repeat' with_reducible first | refine W ?_ | refine Z0 ?_ | ((first | refine Wo fun K hK => ?_ | refine Wp ?_ | refine Wq ?_ | refine Wr ?_); (try simp only [go_sem, fN, seval, eT, iR, e1, e5, e6, e7, e46, e47, e48, s6, hlt, hRl, s60, s10, dT, dF, nL]); (repeat refine Ai ?_); (try (refine hK _ ?_; clear hK K)); try refine iC ?_)
 have hp0 := JY (a := a) (R := R)
 refine IWP.loopD [12] (fun q s => ∃ k, k ≤ R.length ∧ q = R.length - k ∧ s.env 1 = .one (.ptr 1 1 0 0) ∧ s.env 5 = Cx syms ∧ s.env 6 = .one (.ptr 6 1 0 0) ∧ s.env 7 = .one (.ptr 7 1 0 0) ∧ s.env 10 = .one (.ptr 10 1 0 0) ∧ s.env 61 = aJs R ∧ s.env 62 = AN R.length ∧ s.env 63 = AN k ∧ s.S 1 = some (AL a) ∧ s.S 6 = some (.box 61 [.st (.list (R.map DQ))]) ∧ s.S 7 = some (.box 70 [.mptr 45]) ∧ s.S 45 = some (Ky R) ∧ s.S 10 = some (.box 23 [.row 60 R.length]) ∧ s.S 60 = some (.mrow 3 1 (AZ (prog (Dg a R) R.length k))) ∧
  ∀ i ∈ [12, 14, 15, 16, 17, 19, 78, 81, 501, 502], s.S i = none) R.length ⟨0, Nat.zero_le _, rfl, e1, e5, e6, e7, rfl, by simp only [go_sem, fN, seval, eT, iR], by simp only [go_sem, fN, seval, eT, iR, hRl], rfl, by simp only [go_sem, fN, seval, eT, iR, s1], by simp only [go_sem, fN, seval, eT, iR, s6], by simp only [go_sem, fN, seval, eT, iR, s7], by simp only [go_sem, fN, seval, eT, iR, s45], by simp only [go_sem, fN, seval, eT, iR, hRl], by simp only [go_sem, fN, seval, eT, iR, hRl]; rw [Jj, Hq], by simp only [go_sem, fN, seval, eT, iR, s12, s14, s15, s16, s17, s19, s78, s81, s501, s502]⟩ ?_
 clear e1 e5 e6 e7 e46 e47 e48 s1 s6 s7 s45 s9 s10 s12 s14 s15 s16 s17 s19 s60 s78 s81 s501 s502 hlt
 rintro q ⟨env, S⟩ ⟨k, hk, rfl, e1, e5, e6, e7, e10, e61, e62, e63, s1, s6, s7, s45, s10, s60, sn⟩
 simp only [List.forall_mem_cons, List.not_mem_nil, false_implies, implies_true, and_true] at sn
 obtain ⟨s12, s14, s15, s16, s17, s19, s78, s81, s501, s502⟩ := sn
 simp only at e1 e5 e6 e7 e10 e61 e62 e63 s1 s6 s7 s45 s10 s60 s12 s14 s15 s16 s17 s19 s78 s81 s501 s502
 have hpl : (AZ (prog (Dg a R) R.length k)).length = R.length := by rw [BM, F8 hp0 hk]
 by_cases hlt : (k : Int) < R.length
 ·obtain ⟨j, hj⟩ := Ad (show k < R.length by omega)
  have hpk : (Dg a R)[k]? = some (if a.fin j.1 = true then 1 else 0) := by rw [Dg, List.getElem?_map, hj]; rfl
  have hkl : k < (AZ (prog (Dg a R) R.length k)).length := by omega
  have hkR : k < R.length := by omega
  have fj := hfin j.1
  by_cases hA : ((bN j.1 &&& bN a.lastB : Nat) : Int) = 0
  ·have hA' : ¬ a.fin j.1 = true := fun hx => by have := fj.2 hx; omega
   rw [if_neg hA'] at hpk
   repeat' (first | (with_reducible first | refine W ?_ | refine Z0 ?_ | ((first | refine Wo fun K hK => ?_ | refine Wp ?_ | refine Wq ?_ | refine Wr ?_); (try simp only [go_sem, fN, seval, eT, iR, e1, e5, e6, e7, e10, e61, e62, e63, s1, s6, s7, s45, s10, s60, s12, s14, s15, s16, s17, s19, s78, s81, s501, s502, AL, hlt, hj, DQ, G4, IntKind.bits, hA, Int.toNat_natCast, dT, dF, nL]); (repeat refine Ai ?_); (try (refine hK _ ?_; clear hK K)); try refine iC ?_)) | refine Cg _ (cL) ?_)
   refine AE ⟨R.length - (k + 1), by omega, k + 1, by omega, rfl, ?_⟩
   rw [PV hp0 hpk]
   simp only [go_sem, fN, seval, AS.drop, AU, AC.clears, AC.clear, AC.highs, AC.high, Bool.not_false, Bool.true_and, Bool.and_self, AV.purge, AV.purges, AC.purge, AH.purge, List.contains_cons, List.contains_nil, Nat.reduceBEq, Bool.or_self, Bool.or_false, Bool.false_or, Bool.or_true, eT, iR, e1, e5, e6, e7, e10, e61, e62, e63, s1, s6, s7, s45, s10, s60, s12, s14, s15, s16, s17, s19, s78, s81, s501, s502, AL]
   rfl
  ·have hA' : a.fin j.1 = true := fj.1 (by omega)
   rw [if_pos hA'] at hpk
   have hset : (AZ (prog (Dg a R) R.length k)).set k [.int .i64 1] = AZ (prog (Dg a R) R.length (k + 1)) := by
    rw [← G3 hp0 hpk]
    exact DG _ k 1
   obtain ⟨z, hz⟩ := Ad (show k < (prog (Dg a R) R.length k).length by rw [F8 hp0 hk]; omega)
   have hz' := Bk hz
   repeat' (first | (with_reducible first | refine W ?_ | refine Z0 ?_ | ((first | refine Wo fun K hK => ?_ | refine Wp ?_ | refine Wq ?_ | refine Wr ?_); (try simp only [go_sem, fN, seval, eT, iR, e1, e5, e6, e7, e10, e61, e62, e63, s1, s6, s7, s45, s10, s60, s12, s14, s15, s16, s17, s19, s78, s81, s501, s502, AL, hlt, hj, DQ, G4, IntKind.bits, hA, Int.toNat_natCast, hpl, hkl, hkR, hz', hset, dT, dF, nL]); (repeat refine Ai ?_); (try (refine hK _ ?_; clear hK K)); try refine iC ?_)) | refine Cg _ (cL) ?_)
   refine AE ⟨R.length - (k + 1), by omega, k + 1, by omega, rfl, ?_⟩
   simp only [go_sem, fN, seval, AS.drop, AU, AC.clears, AC.clear, AC.highs, AC.high, Bool.not_false, Bool.true_and, Bool.and_self, AV.purge, AV.purges, AC.purge, AH.purge, List.contains_cons, List.contains_nil, Nat.reduceBEq, Bool.or_self, Bool.or_false, Bool.false_or, Bool.or_true, eT, iR, e1, e5, e6, e7, e10, e61, e62, e63, s1, s6, s7, s45, s10, s60, s12, s14, s15, s16, s17, s19, s78, s81, s501, s502, AL]
   rfl
 have hke : k = R.length := by omega
 rw [hke, MD hp0] at s60
 repeat' with_reducible first | refine W ?_ | refine Z0 ?_ | ((first | refine Wo fun K hK => ?_ | refine Wp ?_ | refine Wq ?_ | refine Wr ?_); (try simp only [go_sem, fN, seval, eT, iR, e1, e5, e6, e7, e10, e61, e62, e63, hlt, dT, dF, nL]); (repeat refine Ai ?_); (try (refine hK _ ?_; clear hK K)); try refine iC ?_)
 refine IWP.loopD [78, 81] (fun q s => ∃ t, t ≤ T ∧ q = T + 1 - t ∧ s.env 1 = .one (.ptr 1 1 0 0) ∧ s.env 5 = Cx syms ∧ s.env 6 = .one (.ptr 6 1 0 0) ∧ s.env 7 = .one (.ptr 7 1 0 0) ∧ s.env 10 = .one (.ptr 10 1 0 0) ∧ s.env 13 = AN (CB a syms R t : Nat) ∧ s.S 1 = some (AL a) ∧ s.S 6 = some (.box 61 [.st (.list (R.map DQ))]) ∧ s.S 7 = some (.box 70 [.mptr 45]) ∧ s.S 45 = some (Ky R) ∧ s.S 10 = some (.box 23 [.row 60 R.length]) ∧ s.S 60 = some (.mrow 3 1 (AZ (At a syms R t))) ∧
  ∀ i ∈ [16, 17, 19, 78, 81, 501, 502], s.S i = none) (T + 1) ⟨0, Nat.zero_le _, rfl, e1, e5, e6, e7, e10, rfl, s1, s6, s7, s45, s10, s60, by simp only [go_sem, fN, seval, eT, iR, s16, s17, s19, s78, s81, s501, s502]⟩ ?_
 clear e1 e5 e6 e7 e10 e61 e62 e63 s1 s6 s7 s45 s10 s12 s14 s15 s16 s17 s19 s60 s78 s81 s501 s502 hlt hke
 rintro q ⟨env, S⟩ ⟨t, ht, rfl, e1, e5, e6, e7, e10, e13, s1, s6, s7, s45, s10, s60, sn⟩
 simp only [List.forall_mem_cons, List.not_mem_nil, false_implies, implies_true, and_true] at sn
 obtain ⟨s16, s17, s19, s78, s81, s501, s502⟩ := sn
 simp only at e1 e5 e6 e7 e10 e13 s1 s6 s7 s45 s10 s60 s16 s17 s19 s78 s81 s501 s502
 have hnK : nK a syms R t = (BI a syms R (At a syms R t) R.length).length := rfl
 have hnl : nK a syms R t ≤ R.length := DI
 have hpe : ∀ i, (At a syms R t).getD i 0 ≤ R.length := fun i => Ew i t
 have hplen : (At a syms R t).length = R.length := O2 t
 have hnext : At a syms R (t + 1) = fresh a syms R (At a syms R t) := rfl
 have hprev : CB a syms R (t + 1) = nK a syms R t := rfl
 obtain ⟨part, hpart⟩ : ∃ part, At a syms R t = part := ⟨_, rfl⟩
 rw [hpart] at s60 hnK hpe hplen hnext
 have hfl := HA (a := a) (syms := syms) (R := R) (part := part)
 have hpel : (AZ part).length = R.length := by rw [BM, hplen]
 repeat' with_reducible first | refine W ?_ | refine Z0 ?_ | ((first | refine Wo fun K hK => ?_ | refine Wp ?_ | refine Wq ?_ | refine Wr ?_); (try simp only [go_sem, fN, seval, eT, iR, e1, e5, e6, e7, e10, e13, s1, s6, s7, s45, s10, s60, s16, s17, s19, s78, s81, s501, s502, hRl, dT, dF, nL]); (repeat refine Ai ?_); (try (refine hK _ ?_; clear hK K)); try refine iC ?_)
 refine IWP.loopD [16, 17] (fun q s => ∃ i, i ≤ R.length ∧ q = R.length - i ∧ s.env 1 = .one (.ptr 1 1 0 0) ∧ s.env 5 = Cx syms ∧ s.env 6 = .one (.ptr 6 1 0 0) ∧ s.env 7 = .one (.ptr 7 1 0 0) ∧ s.env 10 = .one (.ptr 10 1 0 0) ∧ s.env 13 = AN (CB a syms R t : Nat) ∧ s.env 14 = .one (.mptr 78) ∧ s.env 15 = .one (.row 81 R.length) ∧ s.env 83 = AN R.length ∧ s.env 84 = AN i ∧ s.S 1 = some (AL a) ∧ s.S 6 = some (.box 61 [.st (.list (R.map DQ))]) ∧ s.S 7 = some (.box 70 [.mptr 45]) ∧ s.S 45 = some (Ky R) ∧ s.S 10 = some (.box 23 [.row 60 R.length]) ∧ s.S 60 = some (.mrow 3 1 (AZ part)) ∧
  s.S 78 = some (NK (BI a syms R part i)) ∧ s.S 81 = some (.mrow 3 1 (AZ (prog (fresh a syms R part) R.length i))) ∧ ∀ i ∈ [16, 17, 19, 501, 502], s.S i = none) R.length
  ⟨0, Nat.zero_le _, rfl, e1, e5, e6, e7, e10, e13, rfl, rfl, by simp only [go_sem, fN, seval, eT, iR, hRl], rfl, by simp only [go_sem, fN, seval, eT, iR, s1], by simp only [go_sem, fN, seval, eT, iR, s6], by simp only [go_sem, fN, seval, eT, iR, s7], by simp only [go_sem, fN, seval, eT, iR, s45], by simp only [go_sem, fN, seval, eT, iR, s10], by simp only [go_sem, fN, seval, eT, iR, s60], by simp only [go_sem, fN, seval, eT, iR]; rfl, by simp only [go_sem, fN, seval, eT, iR, hRl]; rw [Jj, Hq], by simp only [go_sem, fN, seval, eT, iR, s16, s17, s19, s501, s502]⟩ ?_
 ·clear e1 e5 e6 e7 e10 e13 s1 s6 s7 s45 s10 s16 s17 s19 s60 s78 s81 s501 s502
  rintro q ⟨env, S⟩ ⟨i, hi, rfl, e1, e5, e6, e7, e10, e13, e14, e15, e83, e84, s1, s6, s7, s45, s10, s60, s78, s81, sn⟩
  simp only [List.forall_mem_cons, List.not_mem_nil, false_implies, implies_true, and_true] at sn
  obtain ⟨s16, s17, s19, s501, s502⟩ := sn
  simp only at e1 e5 e6 e7 e10 e13 e14 e15 e83 e84 s1 s6 s7 s45 s10 s60 s78 s81 s16 s17 s19 s501 s502
  have hprl : (AZ (prog (fresh a syms R part) R.length i)).length = R.length := by rw [BM, F8 hfl hi]
  by_cases hlt : (i : Int) < R.length
  ·have hiR : i < R.length := by omega
   obtain ⟨p, hp⟩ := Ad (show i < part.length by omega)
   have hp' := Bk hp
   have hpd : part.getD i 0 = p := by rw [List.getD_eq_getElem?_getD, hp]; rfl
   have hple : p ≤ 64 := by have := hpe i; omega
   have henc := IP (p := p) (by omega)
   have hi32 : inR .i32 ((p : Int) + 1) := ⟨by show (-2147483648 : Int) ≤ _; omega, by show _ ≤ (2147483647 : Int); omega⟩
   repeat' with_reducible first | refine W ?_ | refine Z0 ?_ | ((first | refine Wo fun K hK => ?_ | refine Wp ?_ | refine Wq ?_ | refine Wr ?_); (try simp only [go_sem, fN, seval, eT, iR, e1, e5, e6, e7, e10, e13, e14, e15, e83, e84, s1, s6, s7, s45, s10, s60, s78, s81, s16, s17, s19, s501, s502, hlt, hiR, hp', hpel, hi32, henc, dT, dF, nL]); (repeat refine Ai ?_); (try (refine hK _ ?_; clear hK K)); try refine iC ?_)
   have hsig0 : [p] = [part.getD i 0] := by rw [hpd]
   have hbound : ∀ (key : List Nat) (sy : Sym), (JG a R part i key sy).length ≤ key.length + 8192 := fun key sy => by
    have h1 := Fo (f := Fp a R part sy.1 i) (c := 2) (CH R.length sy.2) key fun key l hl => by
     rw [MI]
     have := Iz hl
     omega
    have h2 := L7 (n := R.length) (m := sy.2) hlen
    have h3 : (CH R.length sy.2).length * 2 ≤ 4096 * 2 := Nat.mul_le_mul_right _ h2
    exact Nat.le_trans h1 (by omega)
   refine IWP.loopD [19, 501, 502] (fun q s => ∃ k, k ≤ syms.length ∧ q = syms.length - k ∧ s.env 1 = .one (.ptr 1 1 0 0) ∧ s.env 5 = Cx syms ∧ s.env 6 = .one (.ptr 6 1 0 0) ∧ s.env 7 = .one (.ptr 7 1 0 0) ∧ s.env 10 = .one (.ptr 10 1 0 0) ∧ s.env 13 = AN (CB a syms R t : Nat) ∧ s.env 14 = .one (.mptr 78) ∧ s.env 15 = .one (.row 81 R.length) ∧ s.env 16 = .one (.ptr 16 1 0 0) ∧ s.env 17 = .one (.ptr 17 1 0 0) ∧ s.env 83 = AN R.length ∧ s.env 84 = AN i ∧ s.env 94 = Cx syms ∧ s.env 95 = AN syms.length ∧ s.env 96 = AN k ∧
    s.S 1 = some (AL a) ∧ s.S 6 = some (.box 61 [.st (.list (R.map DQ))]) ∧ s.S 7 = some (.box 70 [.mptr 45]) ∧ s.S 45 = some (Ky R) ∧ s.S 10 = some (.box 23 [.row 60 R.length]) ∧ s.S 60 = some (.mrow 3 1 (AZ part)) ∧ s.S 78 = some (NK (BI a syms R part i)) ∧ s.S 81 = some (.mrow 3 1 (AZ (prog (fresh a syms R part) R.length i))) ∧ s.S 16 = some (.box 3 [.st (.int .i64 i)]) ∧ s.S 17 = some (.box 9 [.st (.str (BK ((syms.take k).foldl (JG a R part i) [p])))]) ∧ ∀ i ∈ [19, 501, 502], s.S i = none) syms.length
    ⟨0, Nat.zero_le _, rfl, e1, e5, e6, e7, e10, e13, e14, e15, rfl, rfl, e83, e84, by simp only [go_sem, fN, seval, eT, iR, e5], by simp only [go_sem, fN, seval, eT, iR], rfl, by simp only [go_sem, fN, seval, eT, iR, s1], by simp only [go_sem, fN, seval, eT, iR, s6], by simp only [go_sem, fN, seval, eT, iR, s7], by simp only [go_sem, fN, seval, eT, iR, s45], by simp only [go_sem, fN, seval, eT, iR, s10], by simp only [go_sem, fN, seval, eT, iR, s60], by simp only [go_sem, fN, seval, eT, iR, s78], by simp only [go_sem, fN, seval, eT, iR, s81], by simp only [go_sem, fN, seval, eT, iR], by (simp only [go_sem, fN, seval, eT, iR]; rfl), by simp only [go_sem, fN, seval, eT, iR, s19, s501, s502]⟩ ?_
   clear e1 e5 e6 e7 e10 e13 e14 e15 e83 e84 s1 s6 s7 s45 s10 s60 s78 s81 s16 s17 s19 s501 s502
   rintro q ⟨env, S⟩ ⟨k, hk, rfl, e1, e5, e6, e7, e10, e13, e14, e15, e16, e17, e83, e84, e94, e95, e96, s1, s6, s7, s45, s10, s60, s78, s81, s16, s17, sn⟩
   simp only [List.forall_mem_cons, List.not_mem_nil, false_implies, implies_true, and_true] at sn
   obtain ⟨s19, s501, s502⟩ := sn
   simp only at e1 e5 e6 e7 e10 e13 e14 e15 e16 e17 e83 e84 e94 e95 e96 s1 s6 s7 s45 s10 s60 s78 s81 s16 s17 s19 s501 s502
   by_cases hks : (k : Int) < syms.length
   ·obtain ⟨sy, hsk⟩ := Ad (show k < syms.length by omega)
    have hsm := AR hsk
    have hs2' := hs2 sy hsm
    have hfold : (syms.take (k + 1)).foldl (JG a R part i) [p] = JG a R part i ((syms.take k).foldl (JG a R part i) [p]) sy := by
     rw [Af hsk, List.foldl_append]
     rfl
    have hkey0 := Jp hbound (syms.take k) [p]
    rw [List.length_take, Nat.min_eq_left hk] at hkey0
    obtain ⟨key, hkey⟩ : ∃ key, (syms.take k).foldl (JG a R part i) [p] = key := ⟨_, rfl⟩
    rw [hkey] at s17 hfold hkey0
    have hkey1 : key.length ≤ 400000 := by
     have : k * 8192 ≤ 40 * 8192 := Nat.mul_le_mul_right _ (by omega)
     simp only [List.length_singleton] at hkey0
     omega
    repeat' (first | (with_reducible first | refine W ?_ | refine Z0 ?_ | ((first | refine Wo fun K hK => ?_ | refine Wp ?_ | refine Wq ?_ | refine Wr ?_); (try simp only [go_sem, fN, seval, eT, iR, e1, e5, e6, e7, e10, e13, e14, e15, e16, e17, e83, e84, e94, e95, e96, s1, s6, s7, s45, s10, s60, s78, s81, s16, s17, s19, s501, s502, hks, hsk, Gw, hRl, dT, dF, nL]); (repeat refine Ai ?_); (try (refine hK _ ?_; clear hK K)); try refine iC ?_)) | refine Cg _ (Lj R.length sy.2) ?_)
    refine IWP.at_ (fun env S => env 1 = .one (.ptr 1 1 0 0) ∧ env 5 = Cx syms ∧ env 6 = .one (.ptr 6 1 0 0) ∧ env 7 = .one (.ptr 7 1 0 0) ∧ env 10 = .one (.ptr 10 1 0 0) ∧ env 13 = AN (CB a syms R t : Nat) ∧ env 14 = .one (.mptr 78) ∧ env 15 = .one (.row 81 R.length) ∧ env 16 = .one (.ptr 16 1 0 0) ∧ env 17 = .one (.ptr 17 1 0 0) ∧ env 19 = .one (.ptr 19 1 0 0) ∧ env 83 = AN R.length ∧ env 84 = AN i ∧ env 94 = Cx syms ∧ env 95 = AN syms.length ∧ env 96 = AN k ∧ env 104 = .one (.fn 57 [.eptr [.int .i64 sy.2], .eptr [.int .i64 R.length]]) ∧
     S 1 = some (AL a) ∧ S 6 = some (.box 61 [.st (.list (R.map DQ))]) ∧ S 7 = some (.box 70 [.mptr 45]) ∧ S 45 = some (Ky R) ∧ S 10 = some (.box 23 [.row 60 R.length]) ∧ S 60 = some (.mrow 3 1 (AZ part)) ∧ S 78 = some (NK (BI a syms R part i)) ∧ S 81 = some (.mrow 3 1 (AZ (prog (fresh a syms R part) R.length i))) ∧ S 16 = some (.box 3 [.st (.int .i64 i)]) ∧ S 17 = some (.box 9 [.st (.str (BK key))]) ∧ S 19 = some (.box 72 [.st (.str sy.1), .st (.int .i64 (sy.2 : Int))]) ∧ S 501 = none ∧ S 502 = none)
     ⟨e1, e5, e6, e7, e10, e13, e14, e15, e16, e17, rfl, e83, e84, e94, e95, e96, rfl, by simp only [go_sem, fN, seval, eT, iR, s1], by simp only [go_sem, fN, seval, eT, iR, s6], by simp only [go_sem, fN, seval, eT, iR, s7], by simp only [go_sem, fN, seval, eT, iR, s45], by simp only [go_sem, fN, seval, eT, iR, s10], by simp only [go_sem, fN, seval, eT, iR, s60], by simp only [go_sem, fN, seval, eT, iR, s78], by simp only [go_sem, fN, seval, eT, iR, s81], by simp only [go_sem, fN, seval, eT, iR, s16], by simp only [go_sem, fN, seval, eT, iR, s17], by simp only [go_sem, fN, seval, eT, iR], by simp only [go_sem, fN, seval, eT, iR, s501], by simp only [go_sem, fN, seval, eT, iR, s502]⟩ ?_
    clear e1 e5 e6 e7 e10 e13 e14 e15 e16 e17 e83 e84 e94 e95 e96 s1 s6 s7 s45 s10 s60 s78 s81 s16 s17 s19 s501 s502
    rintro env S ⟨e1, e5, e6, e7, e10, e13, e14, e15, e16, e17, e19, e83, e84, e94, e95, e96, e104, s1, s6, s7, s45, s10, s60, s78, s81, s16, s17, s19, s501, s502⟩
    refine IWP.rangeW htop 501 (by decide) s501 (show AS.ev _ (.t 104) = _ from e104) (by kernel_rfl) 502 (by decide) (Gb R.length sy.2 hs2' (by omega)) rfl (fun pre U => U = ET S (pre.foldl (Fp a R part sy.1 i) key)) (fun _ _ => False) ?_ ?_ (fun _ _ _ _ _ => trivial) ?_ ?_ (fun _ _ _ h => h.elim)
    ·have k17 : upS S 1017 = some (.box 9 [.st (.str (BK key))]) := Bg s17
     exact (EA k17).symm
    ·rintro pre U rfl
     rw [DC (by decide), Bt, s502]
     rfl
    ·rintro C' b0 b1 pre v U hC' hpre rfl hU hcl hb1
     obtain ⟨tl, htl⟩ := hpre
     have hvm : v ∈ CH R.length sy.2 := by rw [← htl]; simp
     obtain ⟨hvl, hvi⟩ := (DT hs2').1 hvm
     have hv2 := Iz hvm
     have hpl : pre.length ≤ 4096 := by
      have := L7 (n := R.length) (m := sy.2) hlen
      rw [← htl, List.length_append, List.length_append] at this
      omega
     have hkl2 := Fo (f := Fp a R part sy.1 i) (c := 2) pre key fun key l hl => by
      rw [MI]
      have := Iz (n := R.length) (m := sy.2) (l := l) (by rw [← htl]; simp [hl])
      omega
     have hsnoc : (pre ++ [v]).foldl (Fp a R part sy.1 i) key = Fp a R part sy.1 i (pre.foldl (Fp a R part sy.1 i) key) v := by rw [List.foldl_append]; rfl
     obtain ⟨ky, hky⟩ : ∃ ky, pre.foldl (Fp a R part sy.1 i) key = ky := ⟨_, rfl⟩
     rw [hky] at hcl hU hkl2 hsnoc ⊢
     have hkyl : ky.length ≤ 500000 := by omega
     have low : ∀ {i : Nat}, i < 1000 → ET S ky i = none := fun hi => BQ hcl hi
     have n132 := low (i := 132) (by decide)
     have u : ∀ {t : Nat} {id : Nat}, t < 182 → env t = .one (.ptr id 1 0 0) → Bh C.n env t = .one (.ptr (up1 id) 1 0 0) := fun ht he => by rw [Bh, if_pos (by rw [hC]; exact ht), he]; rfl
     have w1 : Bh C.n env 1 = .one (.ptr 1001 1 0 0) := u (by decide) e1
     have w6 : Bh C.n env 6 = .one (.ptr 1006 1 0 0) := u (by decide) e6
     have w7 : Bh C.n env 7 = .one (.ptr 1007 1 0 0) := u (by decide) e7
     have w10 : Bh C.n env 10 = .one (.ptr 1010 1 0 0) := u (by decide) e10
     have w16 : Bh C.n env 16 = .one (.ptr 1016 1 0 0) := u (by decide) e16
     have w17 : Bh C.n env 17 = .one (.ptr 1017 1 0 0) := u (by decide) e17
     have w19 : Bh C.n env 19 = .one (.ptr 1019 1 0 0) := u (by decide) e19
     have u501 : up1 501 = 1501 := rfl
     have u502 : up1 502 = 1502 := rfl
     have hel := BM v
     obtain ⟨W, hW⟩ : ∃ W, AF (AF (ET S ky) 1502 (some (.mrow 3 1 (AZ v)))) 1501 (some b1) = W := ⟨_, rfl⟩
     rw [u501, u502, hel, hvl]
     repeat' with_reducible first | refine W ?_ | refine Z0 ?_ | ((first | refine Wo fun K hK => ?_ | refine Wp ?_ | refine Wq ?_ | refine Wr ?_); (try simp only [go_sem, fN, seval, eT, iR, HK, u501, u502, dT, dF, nL]); (repeat refine Ai ?_); (try (refine hK _ ?_; clear hK K)); try refine iC ?_)
     refine AE ⟨by simp only [go_sem, fN, seval, eT, iR, u501, u502], ?_⟩
     refine IWP.at_ (fun env1 S1 => env1 1 = .one (.ptr 1001 1 0 0) ∧ env1 6 = .one (.ptr 1006 1 0 0) ∧ env1 7 = .one (.ptr 1007 1 0 0) ∧ env1 10 = .one (.ptr 1010 1 0 0) ∧ env1 16 = .one (.ptr 1016 1 0 0) ∧ env1 17 = .one (.ptr 1017 1 0 0) ∧ env1 19 = .one (.ptr 1019 1 0 0) ∧ env1 20 = .one (.row 1502 sy.2) ∧ S1 = W) ⟨w1, w6, w7, w10, w16, w17, w19, rfl, by rw [← hW]; exact G7⟩ ?_
     rintro env1 S1 ⟨x1, x6, x7, x10, x16, x17, x19, x20, rfl⟩
     have hWat : ∀ i, i ≠ 1501 → i ≠ 1502 → S1 i = ET S ky i := fun i p q => by rw [← hW, AD _ p, AD _ q]
     have hWu : ∀ {i : Nat} {b : AH}, up1 i ≠ 1501 → up1 i ≠ 1502 → up1 i ≠ 1017 → S i = some b → S1 (up1 i) = some (b.ren up1) := fun p q r h => by rw [hWat _ p q, DC r]; exact Bg h
     have q1 : S1 1001 = some (AL a) := hWu (i := 1) (by decide) (by decide) (by decide) s1
     have q6 : S1 1006 = some (.box 61 [.st (.list (R.map DQ))]) := hWu (i := 6) (by decide) (by decide) (by decide) s6
     have q7 : S1 1007 = some (.box 70 [.mptr 1045]) := hWu (i := 7) (by decide) (by decide) (by decide) s7
     have q45 : S1 1045 = some (Ky R) := hWu (i := 45) (by decide) (by decide) (by decide) s45
     have q10 : S1 1010 = some (.box 23 [.row 1060 R.length]) := hWu (i := 10) (by decide) (by decide) (by decide) s10
     have q60 : S1 1060 = some (.mrow 3 1 (AZ part)) := hWu (i := 60) (by decide) (by decide) (by decide) s60
     have q16 : S1 1016 = some (.box 3 [.st (.int .i64 i)]) := hWu (i := 16) (by decide) (by decide) (by decide) s16
     have q19 : S1 1019 = some (.box 72 [.st (.str sy.1), .st (.int .i64 (sy.2 : Int))]) := hWu (i := 19) (by decide) (by decide) (by decide) s19
     have q17 : S1 1017 = some (.box 9 [.st (.str (BK ky))]) := by rw [hWat 1017 (by decide) (by decide)]; exact AB _ _ _
     have q502 : S1 1502 = some (.mrow 3 1 (AZ v)) := by rw [← hW, AD _ (by decide), AB]
     have q132 : S1 132 = none := by rw [hWat 132 (by decide) (by decide)]; exact n132
     have hWc : Al S1 := by rw [← hW]; exact Ay (Ay Gg (by decide) rfl) (by decide) hb1
     repeat' with_reducible first | refine W ?_ | refine Z0 ?_ | ((first | refine Wo fun K hK => ?_ | refine Wp ?_ | refine Wq ?_ | refine Wr ?_); (try simp only [go_sem, fN, seval, eT, iR, x20, q502, hel, hvl, dT, dF, nL]); (repeat refine Ai ?_); (try (refine hK _ ?_; clear hK K)); try refine iC ?_)
     refine IWP.loopD [132] (fun q s => ∃ k, k ≤ sy.2 ∧ q = sy.2 - k ∧ s.env 1 = .one (.ptr 1001 1 0 0) ∧ s.env 6 = .one (.ptr 1006 1 0 0) ∧ s.env 7 = .one (.ptr 1007 1 0 0) ∧ s.env 10 = .one (.ptr 1010 1 0 0) ∧ s.env 16 = .one (.ptr 1016 1 0 0) ∧ s.env 17 = .one (.ptr 1017 1 0 0) ∧ s.env 19 = .one (.ptr 1019 1 0 0) ∧ s.env 20 = .one (.row 1502 sy.2) ∧ s.env 107 = AN sy.2 ∧ s.env 108 = AN k ∧
      s.S 132 = none ∧ ∀ z, 1000 ≤ z → s.S z = AF S1 1017 (some (.box 9 [.st (.str (BK (ky ++ (List.range k).map fun k => part.getD (stp a R sy.1 (v.set k i)) 0)))])) z) sy.2
      ⟨0, Nat.zero_le _, rfl, x1, x6, x7, x10, x16, x17, x19, by simp only [go_sem, fN, seval, eT, iR, x20], by simp only [go_sem, fN, seval, eT, iR], rfl, by simp only [go_sem, fN, seval, eT, iR, q132], fun i hi => ?_⟩ ?_
     ·show S1 i = _
      rw [List.range_zero, List.map_nil, List.append_nil, EA q17]
     clear x1 x6 x7 x10 x16 x17 x19 x20
     rintro q2 ⟨env2, S2⟩ ⟨c, hc, rfl, y1, y6, y7, y10, y16, y17, y19, y20, y107, y108, z132, hS2⟩
     simp only at y1 y6 y7 y10 y16 y17 y19 y20 y107 y108 z132 hS2
     have r1 : S2 1001 = some (AL a) := by rw [hS2 1001 (by decide), AD _ (by decide)]; exact q1
     have r6 : S2 1006 = some (.box 61 [.st (.list (R.map DQ))]) := by rw [hS2 1006 (by decide), AD _ (by decide)]; exact q6
     have r7 : S2 1007 = some (.box 70 [.mptr 1045]) := by rw [hS2 1007 (by decide), AD _ (by decide)]; exact q7
     have r45 : S2 1045 = some (Ky R) := by rw [hS2 1045 (by decide), AD _ (by decide)]; exact q45
     have r10 : S2 1010 = some (.box 23 [.row 1060 R.length]) := by rw [hS2 1010 (by decide), AD _ (by decide)]; exact q10
     have r60 : S2 1060 = some (.mrow 3 1 (AZ part)) := by rw [hS2 1060 (by decide), AD _ (by decide)]; exact q60
     have r16 : S2 1016 = some (.box 3 [.st (.int .i64 i)]) := by rw [hS2 1016 (by decide), AD _ (by decide)]; exact q16
     have r19 : S2 1019 = some (.box 72 [.st (.str sy.1), .st (.int .i64 (sy.2 : Int))]) := by rw [hS2 1019 (by decide), AD _ (by decide)]; exact q19
     have r502 : S2 1502 = some (.mrow 3 1 (AZ v)) := by rw [hS2 1502 (by decide), AD _ (by decide)]; exact q502
     have r17 := hS2 1017 (by decide)
     rw [AB] at r17
     obtain ⟨kk, hkk⟩ : ∃ kk, (ky ++ (List.range c).map fun k => part.getD (stp a R sy.1 (v.set k i)) 0) = kk := ⟨_, rfl⟩
     have hkk1 : ky ++ ((List.range (c + 1)).map fun k => part.getD (stp a R sy.1 (v.set k i)) 0) = kk ++ [part.getD (stp a R sy.1 (v.set c i)) 0] := by rw [← hkk, List.range_succ, List.map_append, List.append_assoc]; rfl
     have hkkl : kk.length ≤ 500002 := by rw [← hkk, List.length_append, List.length_map, List.length_range]; omega
     rw [hkk] at r17 hS2
     by_cases hcl2 : c < sy.2
     ·obtain ⟨vc, hvc⟩ := Ad (show c < v.length by omega)
      have hvc' := Bk hvc
      have hcl3 : c < (AZ v).length := by omega
      have hvsl : (v.set c i).length = sy.2 := by rw [List.length_set, hvl]
      have hvsi : ∀ x ∈ v.set c i, x < R.length := fun x hx => by
       rcases List.mem_or_eq_of_mem_set hx with h | h
       ·exact hvi x h
       ·omega
      have hset1 : (AZ v).set c [.int .i64 (i : Int)] = AZ (v.set c i) := DG v c i
      have hset2 : (AZ (v.set c i)).set c [.int .i64 (vc : Int)] = AZ v := by
       rw [DG, List.set_set, RS hvc]
      obtain ⟨vs, hvs⟩ : ∃ vs, v.set c i = vs := ⟨_, rfl⟩
      rw [hvs] at hset1 hset2 hvsl hvsi hkk1
      have hel3 : (AZ vs).length = sy.2 := by rw [BM, hvsl]
      repeat' with_reducible first | refine W ?_ | refine Z0 ?_ | ((first | refine Wo fun K hK => ?_ | refine Wp ?_ | refine Wq ?_ | refine Wr ?_); (try simp only [go_sem, fN, seval, eT, iR, y1, y6, y7, y10, y16, y17, y19, y20, y107, y108, z132, r502, r16, hcl2, hel, hvl, hvc', hcl3, hset1, hel3, dT, dF, nL]); (repeat refine Ai ?_); (try (refine hK _ ?_; clear hK K)); try refine iC ?_)
      refine IWP.ghost (Ae.own 23 132 65 1 rfl (by simp only [go_sem, fN, seval, eT, iR, z132]) (by simp) (by rw [hC', hC]; decide)) ?_
      refine IWP.loop (fun q s => ∃ m, m ≤ sy.2 ∧ q = sy.2 - m ∧ s.env 1 = .one (.ptr 1001 1 0 0) ∧ s.env 6 = .one (.ptr 1006 1 0 0) ∧ s.env 7 = .one (.ptr 1007 1 0 0) ∧ s.env 10 = .one (.ptr 1010 1 0 0) ∧ s.env 16 = .one (.ptr 1016 1 0 0) ∧ s.env 17 = .one (.ptr 1017 1 0 0) ∧ s.env 19 = .one (.ptr 1019 1 0 0) ∧ s.env 20 = .one (.row 1502 sy.2) ∧ s.env 21 = AN c ∧ s.env 22 = AN vc ∧ s.env 23 = .one (.row 132 m) ∧ s.env 107 = AN sy.2 ∧ s.env 108 = AN c ∧ s.env 119 = .one (.row 1502 sy.2) ∧ s.env 120 = AN sy.2 ∧ s.env 121 = AN m ∧
       s.S 132 = some (.arow 65 1 (((Aq R (vs.take m)).map Prod.fst).map Hy)) ∧ ∀ z, 1000 ≤ z → s.S z = AF S2 1502 (some (.mrow 3 1 (AZ vs))) z) sy.2
       ⟨0, Nat.zero_le _, rfl, y1, y6, y7, y10, y16, y17, y19, y20, by simp only [go_sem, fN, seval, eT, iR, y108], by simp only [go_sem, fN, seval, eT, iR], rfl, by simp only [go_sem, fN, seval, eT, iR, y107], by simp only [go_sem, fN, seval, eT, iR, y108], by simp only [go_sem, fN, seval, eT, iR, y20], by simp only [go_sem, fN, seval, eT, iR], rfl, by (simp only [go_sem, fN, seval, eT, iR]; rfl), fun z hz => ?_⟩ ?_
      ·show AF (AF S2 1502 _) 132 _ z = _
       rw [AD _ (by omega)]
      clear y1 y6 y7 y10 y16 y17 y19 y20 y107 y108
      rintro q3 ⟨env3, S3⟩ ⟨m, hm, rfl, y1, y6, y7, y10, y16, y17, y19, y20, y21, y22, y23, y107, y108, y119, y120, y121, z132, hS3⟩
      simp only at y1 y6 y7 y10 y16 y17 y19 y20 y21 y22 y23 y107 y108 y119 y120 y121 z132 hS3
      have t1 := (hS3 1001 (by decide)).trans ((AD _ (by decide) _).trans r1)
      have t6 := (hS3 1006 (by decide)).trans ((AD _ (by decide) _).trans r6)
      have t7 := (hS3 1007 (by decide)).trans ((AD _ (by decide) _).trans r7)
      have t45 := (hS3 1045 (by decide)).trans ((AD _ (by decide) _).trans r45)
      have t10 := (hS3 1010 (by decide)).trans ((AD _ (by decide) _).trans r10)
      have t60 := (hS3 1060 (by decide)).trans ((AD _ (by decide) _).trans r60)
      have t17 := (hS3 1017 (by decide)).trans ((AD _ (by decide) _).trans r17)
      have t19 := (hS3 1019 (by decide)).trans ((AD _ (by decide) _).trans r19)
      have t502 := (hS3 1502 (by decide)).trans (AB _ _ _)
      have hl132 : (((Aq R (vs.take m)).map Prod.fst).map Hy).length = m := by rw [List.length_map, List.length_map, CG, List.length_take]; omega
      by_cases hms : m < sy.2
      ·obtain ⟨x, hxm⟩ := Ad (show m < vs.length by omega)
       have hxo := hvsi x (AR hxm)
       have hxm' := Bk hxm
       obtain ⟨jx, hjx⟩ := Ad hxo
       have hpt : Aq R (vs.take (m + 1)) = Aq R (vs.take m) ++ [jx] := by
        rw [Af hxm]
        unfold Aq
        rw [List.map_append, List.map_cons, List.map_nil, List.getD_eq_getElem?_getD, hjx]
        rfl
       repeat' with_reducible first | refine W ?_ | refine Z0 ?_ | ((first | refine Wo fun K hK => ?_ | refine Wp ?_ | refine Wq ?_ | refine Wr ?_); (try simp only [go_sem, fN, seval, eT, iR, y1, y6, y7, y10, y16, y17, y19, y20, y21, y22, y23, y107, y108, y119, y120, y121, z132, t6, t502, hms, hxm', hjx, hl132, hel3, hvsl, DQ, Fa, dT, dF, nL]); (repeat refine Ai ?_); (try (refine hK _ ?_; clear hK K)); try refine iC ?_)
       refine AE ⟨sy.2 - (m + 1), by omega, m + 1, by omega, rfl, y1, y6, y7, y10, y16, y17, y19, y20, y21, y22, by simp only [go_sem, fN, seval, eT, iR], y107, y108, y119, y120, rfl, ?_, fun z hz => ?_⟩
       ·rw [hpt]
        simp only [go_sem, fN, seval, eT, iR]
        simp [Hy]
       ·show AF S3 132 _ z = _
        rw [AD _ (by omega)]
        exact hS3 z hz
      ·have hme : m = sy.2 := by omega
       have hmt : vs.take m = vs := by rw [hme, ← hvsl]; exact List.take_length
       rw [hmt] at z132 hl132
       have hbelow : ∀ x ∈ Aq R vs, x.1.length = a.states.toNat := fun x hx' => (hx x (Dy hvsi x hx')).1
       have hfa := Ka a ga (by omega) (by omega) sy.1 ((Aq R vs).map Prod.fst) (fun l hl => by
        obtain ⟨x, hx', rfl⟩ := List.mem_map.1 hl
        exact hbelow x hx') (by rw [List.length_map, CG]; omega)
       have hmem := hclosed hsm (l := Aq R vs) (by rw [CG, hvsl]) (Dy hvsi)
       have hxR : a.ending sy.1 ((Aq R vs).map Prod.fst) ∈ R.map Prod.fst := List.mem_map.2 ⟨_, hmem, rfl⟩
       have hg := Gs (c := a.states.toNat) R 0 (a.ending sy.1 ((Aq R vs).map Prod.fst)) (fun j hj => (hx j hj).1) (Au.ending_length _ _ _)
       rw [if_pos hxR, Nat.zero_add] at hg
       have hst : stp a R sy.1 vs = (R.map Prod.fst).idxOf (a.ending sy.1 ((Aq R vs).map Prod.fst)) := rfl
       have hstl : stp a R sy.1 vs < R.length := by
        rw [hst]
        have := List.idxOf_lt_length_of_mem hxR
        rwa [List.length_map] at this
       rw [← hst] at hg
       obtain ⟨ps, hps⟩ := Ad (show stp a R sy.1 vs < part.length by omega)
       have hps' := Bk hps
       have hpsd : part.getD (stp a R sy.1 vs) 0 = ps := by rw [List.getD_eq_getElem?_getD, hps]; rfl
       have hpsl : ps ≤ 64 := by have := hpe (stp a R sy.1 vs); omega
       have henc2 := IP (p := ps) (by omega)
       have hi322 : inR .i32 ((ps : Int) + 1) := ⟨by show (-2147483648 : Int) ≤ _; omega, by show _ ≤ (2147483647 : Int); omega⟩
       have hcat := Lo kk [ps]
       have hsz : (BK kk).size + (BK [ps]).size ≤ maxLen := by rw [Jw, Jw, Bu, List.length_singleton]; omega
       rw [hpsd] at hkk1
       have hcl4 : c < (AZ vs).length := by omega
       obtain ⟨vz, hvz⟩ := Ad (show c < vs.length by omega)
       have hvz' := Bk hvz
       generalize stp a R sy.1 vs = st at *
       repeat' (first | (with_reducible first | refine W ?_ | refine Z0 ?_ | ((first | refine Wo fun K hK => ?_ | refine Wp ?_ | refine Wq ?_ | refine Wr ?_); (try simp only [go_sem, fN, seval, eT, iR, y1, y6, y7, y10, y16, y17, y19, y20, y21, y22, y23, y107, y108, y119, y120, y121, z132, t1, t6, t7, t10, t17, t19, t45, t60, t502, AL, hms, hl132, hel3, hvsl, BR, DP, KV.of, hg, Fb, hps', hpel, hstl, hi322, henc2, hcat, hsz, hcl2, hcl3, hcl4, hvz', hset2, dT, dF, nL]); (repeat refine Ai ?_); (try (refine hK _ ?_; clear hK K)); try refine iC ?_)) | refine Cg _ (hfa) ?_)
       refine AE ⟨sy.2 - (c + 1), by omega, c + 1, by omega, rfl, by simp only [go_sem, fN, seval, AS.drop, AU, AC.clears, AC.clear, AC.highs, AC.high, Bool.not_false, Bool.true_and, Bool.and_self, AV.purge, AV.purges, AC.purge, AH.purge, List.contains_cons, List.contains_nil, Nat.reduceBEq, Bool.or_self, Bool.or_false, Bool.false_or, Bool.or_true, eT, iR, y1], by simp only [go_sem, fN, seval, AS.drop, AU, AC.clears, AC.clear, AC.highs, AC.high, Bool.not_false, Bool.true_and, Bool.and_self, AV.purge, AV.purges, AC.purge, AH.purge, List.contains_cons, List.contains_nil, Nat.reduceBEq, Bool.or_self, Bool.or_false, Bool.false_or, Bool.or_true, eT, iR, y6], by simp only [go_sem, fN, seval, AS.drop, AU, AC.clears, AC.clear, AC.highs, AC.high, Bool.not_false, Bool.true_and, Bool.and_self, AV.purge, AV.purges, AC.purge, AH.purge, List.contains_cons, List.contains_nil, Nat.reduceBEq, Bool.or_self, Bool.or_false, Bool.false_or, Bool.or_true, eT, iR, y7], by simp only [go_sem, fN, seval, AS.drop, AU, AC.clears, AC.clear, AC.highs, AC.high, Bool.not_false, Bool.true_and, Bool.and_self, AV.purge, AV.purges, AC.purge, AH.purge, List.contains_cons, List.contains_nil, Nat.reduceBEq, Bool.or_self, Bool.or_false, Bool.false_or, Bool.or_true, eT, iR, y10], by simp only [go_sem, fN, seval, AS.drop, AU, AC.clears, AC.clear, AC.highs, AC.high, Bool.not_false, Bool.true_and, Bool.and_self, AV.purge, AV.purges, AC.purge, AH.purge, List.contains_cons, List.contains_nil, Nat.reduceBEq, Bool.or_self, Bool.or_false, Bool.false_or, Bool.or_true, eT, iR, y16], by simp only [go_sem, fN, seval, AS.drop, AU, AC.clears, AC.clear, AC.highs, AC.high, Bool.not_false, Bool.true_and, Bool.and_self, AV.purge, AV.purges, AC.purge, AH.purge, List.contains_cons, List.contains_nil, Nat.reduceBEq, Bool.or_self, Bool.or_false, Bool.false_or, Bool.or_true, eT, iR, y17], by simp only [go_sem, fN, seval, AS.drop, AU, AC.clears, AC.clear, AC.highs, AC.high, Bool.not_false, Bool.true_and, Bool.and_self, AV.purge, AV.purges, AC.purge, AH.purge, List.contains_cons, List.contains_nil, Nat.reduceBEq, Bool.or_self, Bool.or_false, Bool.false_or, Bool.or_true, eT, iR, y19], by simp only [go_sem, fN, seval, AS.drop, AU, AC.clears, AC.clear, AC.highs, AC.high, Bool.not_false, Bool.true_and, Bool.and_self, AV.purge, AV.purges, AC.purge, AH.purge, List.contains_cons, List.contains_nil, Nat.reduceBEq, Bool.or_self, Bool.or_false, Bool.false_or, Bool.or_true, eT, iR, y20], by simp only [go_sem, fN, seval, AS.drop, AU, AC.clears, AC.clear, AC.highs, AC.high, Bool.not_false, Bool.true_and, Bool.and_self, AV.purge, AV.purges, AC.purge, AH.purge, List.contains_cons, List.contains_nil, Nat.reduceBEq, Bool.or_self, Bool.or_false, Bool.false_or, Bool.or_true, eT, iR, y107], by (simp only [go_sem, fN, seval, AS.drop, AU, AC.clears, AC.clear, AC.highs, AC.high, Bool.not_false, Bool.true_and, Bool.and_self, AV.purge, AV.purges, AC.purge, AH.purge, List.contains_cons, List.contains_nil, Nat.reduceBEq, Bool.or_self, Bool.or_false, Bool.false_or, Bool.or_true, eT, iR, y108]; rfl), by simp only [go_sem, fN, seval, AS.drop, AU, AC.clears, AC.clear, AC.highs, AC.high, Bool.not_false, Bool.true_and, Bool.and_self, AV.purge, AV.purges, AC.purge, AH.purge, List.contains_cons, List.contains_nil, Nat.reduceBEq, Bool.or_self, Bool.or_false, Bool.false_or, Bool.or_true, eT, iR], Nl (T := AF S1 1017 (some (.box 9 [.st (.str (BK (ky ++ (List.range (c + 1)).map fun k => part.getD (stp a R sy.1 (v.set k i)) 0)))]))) (by decide) (Ay hWc (by decide) rfl) fun z hz => ?_⟩
       show AF (AF S3 1017 _) 1502 _ z = _
       rw [hkk1]
       by_cases c1 : z = 1502
       ·subst c1
        rw [AB, AD _ (by decide)]
        exact q502.symm
       by_cases c2 : z = 1017
       ·subst c2
        rw [AD _ c1, AB, AB]
       rw [AD _ c1, AD _ c2, hS3 z hz, AD _ c1, hS2 z hz, AD _ c2, AD _ c2]
     ·have hce : c = sy.2 := by omega
      have hkkf : kk = (pre ++ [v]).foldl (Fp a R part sy.1 i) key := by
       rw [hsnoc, ← hkk, hce]
       unfold Fp
       rw [hvl]
      repeat' with_reducible first | refine W ?_ | refine Z0 ?_ | ((first | refine Wo fun K hK => ?_ | refine Wp ?_ | refine Wq ?_ | refine Wr ?_); (try simp only [go_sem, fN, seval, eT, iR, y107, y108, hcl2, dT, dF, nL]); (repeat refine Ai ?_); (try (refine hK _ ?_; clear hK K)); try refine iC ?_)
      refine G_ (AF (ET S kk) 1502 (some (.mrow 3 1 (AZ v)))) (Ay (Ay Gg (by decide) rfl) (by decide) hb1) (by rw [AD _ (by decide), DC (by decide)]; show upS S (up1 501) = none; rw [Bt, s501]; rfl) (fun z hz => ?_) ⟨_, rfl, ?_, by rw [hkkf]⟩
      ·show S2 z = _
       rw [hS2 z hz, ← hW]
       by_cases c1 : z = 1501
       ·subst c1
        rw [AD _ (by decide), AB, AB]
       by_cases c2 : z = 1502
       ·subst c2
        rw [AD _ (by decide), AD _ c1, AB, AD _ c1, AB]
       by_cases c3 : z = 1017
       ·subst c3
        rw [AB, AD _ c1, AD _ c2]
        exact (AB _ _ _).symm
       rw [AD _ c3, AD _ c1, AD _ c2, AD _ c1, AD _ c2, DC c3, DC c3]
      ·rw [DC (by decide)]
       show upS S (up1 502) = none
       rw [Bt, s502]
       rfl
    ·rintro U bb rfl
     rw [Mq]
     have hsy : (CH R.length sy.2).foldl (Fp a R part sy.1 i) key = JG a R part i key sy := rfl
     rw [hsy, ← hfold]
     repeat' with_reducible first | refine W ?_ | refine Z0 ?_ | ((first | refine Wo fun K hK => ?_ | refine Wp ?_ | refine Wq ?_ | refine Wr ?_); (try simp only [go_sem, fN, seval, eT, iR, e96, dT, dF, nL]); (repeat refine Ai ?_); (try (refine hK _ ?_; clear hK K)); try refine iC ?_)
     refine AE ⟨syms.length - (k + 1), by omega, k + 1, by omega, rfl, ?_⟩
     simp only [go_sem, fN, seval, AS.drop, AU, AC.clears, AC.clear, AC.highs, AC.high, Bool.not_false, Bool.true_and, Bool.and_self, AV.purge, AV.purges, AC.purge, AH.purge, List.contains_cons, List.contains_nil, Nat.reduceBEq, Bool.or_self, Bool.or_false, Bool.false_or, Bool.or_true, eT, iR, e1, e5, e6, e7, e10, e13, e14, e15, e16, e17, e83, e84, e94, e95, e96, s1, s6, s7, s45, s10, s60, s78, s81, s16, AL]
     rfl
   ·have hke : k = syms.length := by omega
    have hsg : syms.foldl (JG a R part i) [p] = sig a syms R part i := by unfold sig; rw [hpd]
    rw [hke, List.take_length, hsg] at s17
    have hks1 := DO (a := a) (syms := syms) (R := R) (part := part) i
    have hfr := RE (a := a) (syms := syms) (R := R) (part := part) (Nat.lt_succ_self i) hiR
    have hmg := D1 (BI a syms R part i) 0 (BK (sig a syms R part i))
    have hmp := Ju (l := BI a syms R part i) (n := BK (sig a syms R part i))
    have hkl : (BI a syms R part i).length ≤ i := DI
    have hen := Hr (BI a syms R part i) 0
    have hfk : (fresh a syms R part)[i]? = some (CA (BI a syms R part (i + 1)) (BK (sig a syms R part i))) := by
     unfold fresh
     rw [List.getElem?_map, List.getElem?_range hiR, ← hfr]
     rfl
    have hst := G3 hfl hfk
    have hset : (AZ (prog (fresh a syms R part) R.length i)).set i [.int .i64 (CA (BI a syms R part (i + 1)) (BK (sig a syms R part i)) : Int)] = AZ (prog (fresh a syms R part) R.length (i + 1)) := by
     rw [← hst]
     exact DG _ i _
    obtain ⟨z, hz⟩ := Ad (show i < (prog (fresh a syms R part) R.length i).length by rw [F8 hfl hi]; omega)
    have hz' := Bk hz
    have hil : i < (AZ (prog (fresh a syms R part) R.length i)).length := by omega
    rw [hks1] at hset
    by_cases hin : CA (BI a syms R part i) (BK (sig a syms R part i)) < (BI a syms R part i).length
    ·rw [if_pos hin, Nat.zero_add] at hmg
     have hadd : GP (BI a syms R part i) (BK (sig a syms R part i)) = BI a syms R part i := if_pos hin
     rw [hadd] at hset hks1
     repeat' with_reducible first | refine W ?_ | refine Z0 ?_ | ((first | refine Wo fun K hK => ?_ | refine Wp ?_ | refine Wq ?_ | refine Wr ?_); (try simp only [go_sem, fN, seval, eT, iR, e1, e5, e6, e7, e10, e13, e14, e15, e16, e17, e83, e84, e94, e95, e96, s1, s6, s7, s45, s10, s60, s78, s81, s16, s17, s19, s501, s502, hks, BR, DP, KV.of, hmg, Fb, hprl, hil, hz', hset, hiR, dT, dF, nL]); (repeat refine Ai ?_); (try (refine hK _ ?_; clear hK K)); try refine iC ?_)
     refine AE ⟨R.length - (i + 1), by omega, i + 1, by omega, rfl, ?_⟩
     rw [hks1]
     simp only [go_sem, fN, seval, AS.drop, AU, AC.clears, AC.clear, AC.highs, AC.high, Bool.not_false, Bool.true_and, Bool.and_self, AV.purge, AV.purges, AC.purge, AH.purge, List.contains_cons, List.contains_nil, Nat.reduceBEq, Bool.or_self, Bool.or_false, Bool.false_or, Bool.or_true, eT, iR, e1, e5, e6, e7, e10, e13, e14, e15, e16, e17, e83, e84, e94, e95, e96, s1, s6, s7, s45, s10, s60, s78, s81, s16, s17, s19, s501, s502, AL]
     rfl
    ·rw [if_neg hin] at hmg
     have hmp' := hmp hin
     have hnew := D1 (GP (BI a syms R part i) (BK (sig a syms R part i))) 0 (BK (sig a syms R part i))
     rw [if_pos (DY.2 (Lg.2 (.inr rfl))), Nat.zero_add] at hnew
     repeat' with_reducible first | refine W ?_ | refine Z0 ?_ | ((first | refine Wo fun K hK => ?_ | refine Wp ?_ | refine Wq ?_ | refine Wr ?_); (try simp only [go_sem, fN, seval, eT, iR, e1, e5, e6, e7, e10, e13, e14, e15, e16, e17, e83, e84, e94, e95, e96, s1, s6, s7, s45, s10, s60, s78, s81, s16, s17, s19, s501, s502, hks, BR, DP, KV.of, hmg, hen, hmp', hnew, Fb, hprl, hil, hz', hset, hiR, dT, dF, nL]); (repeat refine Ai ?_); (try (refine hK _ ?_; clear hK K)); try refine iC ?_)
     refine AE ⟨R.length - (i + 1), by omega, i + 1, by omega, rfl, ?_⟩
     rw [hks1]
     simp only [go_sem, fN, seval, AS.drop, AU, AC.clears, AC.clear, AC.highs, AC.high, Bool.not_false, Bool.true_and, Bool.and_self, AV.purge, AV.purges, AC.purge, AH.purge, List.contains_cons, List.contains_nil, Nat.reduceBEq, Bool.or_self, Bool.or_false, Bool.false_or, Bool.or_true, eT, iR, e1, e5, e6, e7, e10, e13, e14, e15, e16, e17, e83, e84, e94, e95, e96, s1, s6, s7, s45, s10, s60, s78, s81, s16, s17, s19, s501, s502, AL]
     rfl
  ·have hie : i = R.length := by omega
   rw [hie] at s78 s81
   rw [MD hfl] at s81
   have hen := Hr (BI a syms R part R.length) 0
   rw [← hnK] at hen
   by_cases hstop : nK a syms R t = CB a syms R t
   ·have htT : t = T := by
     rcases Nat.lt_or_ge t T with h | h
     ·exact absurd hstop (hmin t h)
     ·omega
    rw [htT] at hstop e13 hen hnl
    rw [← hstop] at e13
    repeat' with_reducible first | refine W ?_ | refine Z0 ?_ | ((first | refine Wo fun K hK => ?_ | refine Wp ?_ | refine Wq ?_ | refine Wr ?_); (try simp only [go_sem, fN, seval, eT, iR, e1, e5, e6, e7, e10, e13, e14, e15, e83, e84, s78, hlt, BR, hen, dT, dF, nL]); (repeat refine Ai ?_); (try (refine hK _ ?_; clear hK K)); try refine iC ?_)
    simp only [go_sem, fN, seval, Ab, AS.result, AI, AJ, AW, e13]
   ·have htT : t < T := by
     rcases Nat.lt_or_ge t T with h | h
     ·exact h
     ·exact absurd (by rw [show t = T by omega]; exact hT) hstop
    have hstop' : ¬ ((nK a syms R t : Nat) : Int) = (CB a syms R t : Nat) := by omega
    iterate 17 with_reducible first | refine W ?_ | refine Z0 ?_ | ((first | refine Wo fun K hK => ?_ | refine Wp ?_ | refine Wq ?_ | refine Wr ?_); (try simp only [go_sem, fN, seval, eT, iR, e1, e5, e6, e7, e10, e13, e14, e15, e83, e84, s78, hlt, BR, hen, hstop, hstop', dT, dF, nL]); (repeat refine Ai ?_); (try (refine hK _ ?_; clear hK K)); try refine iC ?_)
    refine IWP.ghost (Ae.drop [60] _ (by decide)) ?_
    refine IWP.at_ (fun env1 S1 => env1 1 = .one (.ptr 1 1 0 0) ∧ env1 5 = Cx syms ∧ env1 6 = .one (.ptr 6 1 0 0) ∧ env1 7 = .one (.ptr 7 1 0 0) ∧ env1 10 = .one (.ptr 10 1 0 0) ∧ env1 14 = .one (.mptr 78) ∧ env1 15 = .one (.row 81 R.length) ∧ S1 1 = some (AL a) ∧ S1 6 = some (.box 61 [.st (.list (R.map DQ))]) ∧ S1 7 = some (.box 70 [.mptr 45]) ∧ S1 45 = some (Ky R) ∧ S1 10 = some (.box 23 [.any]) ∧ S1 60 = none ∧ S1 78 = some (NK (BI a syms R part R.length)) ∧ S1 81 = some (.mrow 3 1 (AZ (fresh a syms R part))) ∧ S1 16 = none ∧ S1 17 = none ∧ S1 19 = none ∧ S1 501 = none ∧ S1 502 = none)
     (by simp only [go_sem, fN, seval, AS.drop, AU, AC.clears, AC.clear, AC.highs, AC.high, Bool.not_false, Bool.true_and, Bool.and_self, AV.purge, AV.purges, AC.purge, AH.purge, List.contains_cons, List.contains_nil, Nat.reduceBEq, Bool.or_self, Bool.or_false, Bool.false_or, Bool.or_true, eT, iR, e1, e5, e6, e7, e10, e14, e15, s1, s6, s7, s45, s10, s78, s81, s16, s17, s19, s501, s502, AL]) ?_
    clear e1 e5 e6 e7 e10 e13 e14 e15 e83 e84 s1 s6 s7 s45 s10 s60 s78 s81 s16 s17 s19 s501 s502
    rintro env1 S1 ⟨e1, e5, e6, e7, e10, e14, e15, s1, s6, s7, s45, s10, s60, s78, s81, s16, s17, s19, s501, s502⟩
    refine IWP.ghost (Ae.renameM 15 81 60 1000 (e := 3) (wd := 1) (xs := AZ (fresh a syms R part)) s81 (by rw [BM, hfl]; exact e15) s60 (by rw [BM, hfl]; omega) (by rw [hC]; decide)) ?_
    rw [BM, hfl]
    repeat' with_reducible first | refine W ?_ | refine Z0 ?_ | ((first | refine Wo fun K hK => ?_ | refine Wp ?_ | refine Wq ?_ | refine Wr ?_); (try simp only [go_sem, fN, seval, eT, iR, e1, e5, e6, e7, e10, e14, s10, s78, BR, hen, dT, dF, nL]); (repeat refine Ai ?_); (try (refine hK _ ?_; clear hK K)); try refine iC ?_)
    refine AE ⟨T + 1 - (t + 1), by omega, t + 1, by omega, rfl, ?_⟩
    rw [hnext, hprev]
    simp only [go_sem, fN, seval, AS.drop, AU, AC.clears, AC.clear, AC.highs, AC.high, Bool.not_false, Bool.true_and, Bool.and_self, AV.purge, AV.purges, AC.purge, AH.purge, List.contains_cons, List.contains_nil, Nat.reduceBEq, Bool.or_self, Bool.or_false, Bool.false_or, Bool.or_true, eT, iR, e1, e5, e6, e7, e10, e14, s1, s6, s7, s45, s10, s78, s16, s17, s19, s501, s502, AL]

theorem G0 {α β : Type} {g : α → List β} : ∀ (l : List α) (k : List β), l.foldl (fun k x => k ++ g x) k = k ++ l.flatMap g
 | [], k => by simp
 | x :: l, k => by
  rw [List.foldl_cons, G0 l, List.flatMap_cons, List.append_assoc]
theorem H1 {α β : Type} {f g : α → List β} : ∀ {l : List α}, (∀ x ∈ l, (f x).length = (g x).length) → l.flatMap f = l.flatMap g → ∀ x ∈ l, f x = g x
 | [], _, _, x, hx => by cases hx
 | y :: l, hl, h, x, hx => by
  rw [List.flatMap_cons, List.flatMap_cons] at h
  obtain ⟨h1, h2⟩ := List.append_inj h (hl y (by simp))
  rcases List.mem_cons.1 hx with rfl | hx
  ·exact h1
  ·exact H1 (fun z hz => hl z (by simp [hz])) h2 x hx
section
variable {a : Au} {syms : List Sym} {R : List J}
def Ir (a : Au) (R : List J) (part : List Nat) (i : Nat) (s : Sym) (l : List Nat) : List Nat := (List.range l.length).map fun k => part.getD (stp a R s.1 (l.set k i)) 0
theorem Qa (part : List Nat) (i : Nat) : sig a syms R part i = [part.getD i 0] ++ syms.flatMap fun s => (CH R.length s.2).flatMap (Ir a R part i s) := by
 have h : JG a R part i = fun key s => key ++ (CH R.length s.2).flatMap (Ir a R part i s) := by
  funext key s
  exact G0 (g := Ir a R part i s) (CH R.length s.2) key
 unfold sig
 rw [h, G0]
theorem Nv {part : List Nat} {i j : Nat} : sig a syms R part i = sig a syms R part j ↔ part.getD i 0 = part.getD j 0 ∧ ∀ s ∈ syms, ∀ l ∈ CH R.length s.2, ∀ p, p < l.length → part.getD (stp a R s.1 (l.set p i)) 0 = part.getD (stp a R s.1 (l.set p j)) 0 := by
 rw [Qa, Qa]
 constructor
 ·intro h
  obtain ⟨h1, h2⟩ := List.append_inj h rfl
  have hlen : ∀ s, ((CH R.length s.2).flatMap (Ir a R part i s)).length = ((CH R.length s.2).flatMap (Ir a R part j s)).length := fun s => by
   simp [List.length_flatMap, Ir]
  refine ⟨(List.cons.inj h1).1, fun s hs l hl p hp => ?_⟩
  have h3 := H1 (fun s _ => hlen s) h2 s hs
  have h4 := H1 (fun l _ => by simp [Ir]) h3 l hl
  have h5 := congrArg (fun x : List Nat => x[p]?) h4
  simpa [Ir, hp] using h5
 ·rintro ⟨h1, h2⟩
  rw [h1]
  congr 1
  have key : ∀ {l : List Sym}, (∀ s ∈ l, s ∈ syms) → (l.flatMap fun s => (CH R.length s.2).flatMap (Ir a R part i s)) = l.flatMap fun s => (CH R.length s.2).flatMap (Ir a R part j s) := fun {l} hl => by
   rw [List.flatMap_def, List.flatMap_def]
   congr 1
   refine List.map_congr_left fun s hs => ?_
   rw [List.flatMap_def, List.flatMap_def]
   congr 1
   refine List.map_congr_left fun t ht => ?_
   unfold Ir
   refine List.map_congr_left fun p hp => ?_
   exact h2 s (hl s hs) t ht p (List.mem_range.1 hp)
  exact key fun s hs => hs
theorem RH {k : Nat} {f g : Nat → ByteArray} {F G : List ByteArray} (hF : F.Nodup) (hG : G.Nodup) (hFm : ∀ x, x ∈ F ↔ ∃ i, i < k ∧ x = f i) (hg : ∀ x ∈ G, ∃ i, i < k ∧ x = g i) (h : ∀ i j, i < k → j < k → f i = f j → g i = g j) (he : F.length ≤ G.length) {i j : Nat} (hi : i < k) (hj : j < k) (hij : g i = g j) : f i = f j := by
 classical
 by_cases hne : f i = f j
 ·exact hne
 ·exfalso
  have hjF : f j ∈ F := (hFm _).2 ⟨j, hj, rfl⟩
  have h1 := L5 (k := k) (f := fun x => if f x = f j then f i else f x) (g := g) (F := F.filter fun x => decide (x ≠ f j)) (G := G) hG (fun x hx => by
   show (if f x = f j then f i else f x) ∈ _
   by_cases e : f x = f j
   ·rw [if_pos e]
    exact List.mem_filter.2 ⟨(hFm _).2 ⟨i, hi, rfl⟩, decide_eq_true hne⟩
   ·rw [if_neg e]
    exact List.mem_filter.2 ⟨(hFm _).2 ⟨x, hx, rfl⟩, decide_eq_true e⟩) hg (fun x y hx hy e => by
   have e : (if f x = f j then f i else f x) = (if f y = f j then f i else f y) := e
   by_cases e1 : f x = f j <;> by_cases e2 : f y = f j
   ·exact h x y hx hy (e1.trans e2.symm)
   ·rw [if_pos e1, if_neg e2] at e
    rw [h x j hx hj e1, ← hij]
    exact h i y hi hy e
   ·rw [if_neg e1, if_pos e2] at e
    rw [h y j hy hj e2, ← hij]
    exact h x i hx hi e
   ·rw [if_neg e1, if_neg e2] at e
    exact h x y hx hy e)
  have := List.length_filter_lt_length_iff_exists (p := fun x => decide (x ≠ f j)) (l := F) |>.2 ⟨f j, hjF, by simp⟩
  omega
theorem KE (h64 : R.length ≤ 64) {t i j : Nat} (hi : i < R.length) (hj : j < R.length) (h : (At a syms R (t + 1)).getD i 0 = (At a syms R (t + 1)).getD j 0) : sig a syms R (At a syms R t) i = sig a syms R (At a syms R t) j := by
 rw [show At a syms R (t + 1) = fresh a syms R (At a syms R t) from rfl, CX hi, CX hj] at h
 have hb : ∀ i, ∀ x ∈ sig a syms R (At a syms R t) i, x < 100 := fun i x hx => by
  have := Ho (fun k => Ew k t) i x hx
  omega
 exact GJ (hb i) (hb j) (Li (BG.2 ⟨i, hi, rfl⟩) (BG.2 ⟨j, hj, rfl⟩) h)
theorem MG (h64 : R.length ≤ 64) {i j : Nat} (hi : i < R.length) (hj : j < R.length) : ∀ t, (At a syms R t).getD i 0 = (At a syms R t).getD j 0 → a.fin (R[i]).1 = a.fin (R[j]).1
 | 0, h => by
  unfold At Dg at h
  rw [List.getD_eq_getElem?_getD, List.getD_eq_getElem?_getD, List.getElem?_map, List.getElem?_map, List.getElem?_eq_getElem hi, List.getElem?_eq_getElem hj] at h
  simp only [Option.map_some, Option.getD_some] at h
  cases h1 : a.fin (R[i]).1 <;> cases h2 : a.fin (R[j]).1 <;> rw [h1, h2] at h <;> simp at h ⊢
 | t + 1, h => MG h64 hi hj t (IE (KE h64 hi hj h))
theorem Ha (h64 : R.length ≤ 64) {t i j : Nat} (hT : nK a syms R (t + 1) = nK a syms R t) (hi : i < R.length) (hj : j < R.length) (h : (At a syms R (t + 1)).getD i 0 = (At a syms R (t + 1)).getD j 0) : sig a syms R (At a syms R (t + 1)) i = sig a syms R (At a syms R (t + 1)) j := by
 have hb : ∀ i, ∀ x ∈ sig a syms R (At a syms R (t + 1)) i, x < 100 := fun i x hx => by
  have := Ho (fun k => Ew k (t + 1)) i x hx
  omega
 refine GJ (hb i) (hb j) (RH (k := R.length) (f := fun i => BK (sig a syms R (At a syms R (t + 1)) i)) (g := fun i => BK (sig a syms R (At a syms R t) i)) Cu Cu (fun x => BG) (fun x hx => BG.1 hx) (fun i j hi hj h => HV h64 hi hj h) (Nat.le_of_eq hT) hi hj (congrArg BK (KE h64 hi hj h)))
theorem Ri (h : nK a syms R 0 = 0) : R.length = 0 := by
 rcases Nat.eq_zero_or_pos R.length with h0 | h0
 ·exact h0
 ·have := List.length_pos_of_mem ((BG (a := a) (syms := syms) (R := R) (part := At a syms R 0) (k := R.length)).2 ⟨0, h0, rfl⟩)
  unfold nK at h
  omega
end
section
variable (a : Au) (E : List (List Bool))
def It (n p : Nat) (x z : List Bool) : List (List Bool) := (List.range n).map fun q => if q = p then x else z
def FP (m : Mv) (p i o : Nat) : Nat := E.idxOf (a.ending m.name (It m.frm.length p (E.getD i []) (E.getD o [])))
def Nz (U : Nat → Nat → Bool) (i k : Nat) (m : Mv) (p : Nat) : Bool := (List.range E.length).any fun o => U (FP a E m p i o) (FP a E m p k o)
def H3 (U : Nat → Nat → Bool) (i k : Nat) (m : Mv) : Bool := (List.range m.frm.length).any (Nz a E U i k m)
def B6 (U : Nat → Nat → Bool) (i k : Nat) : Bool := a.moves.any (H3 a E U i k)
def U0 (i k : Nat) : Bool := a.fin (E.getD i []) != a.fin (E.getD k [])
def Ez (U : Nat → Nat → Bool) (i k : Nat) : Nat → Nat → Bool := fun x y => (decide (x = i) && decide (y = k)) || (decide (x = k) && decide (y = i)) || U x y
def DM (i : Nat) (U : Nat → Nat → Bool) (k : Nat) : Nat → Nat → Bool := if U i k = false ∧ B6 a E U i k = true then Ez U i k else U
def OW (U : Nat → Nat → Bool) (i : Nat) : Nat → Nat → Bool := (List.range E.length).foldl (DM a E i) U
def J_ (U : Nat → Nat → Bool) : Nat → Nat → Bool := (List.range E.length).foldl (OW a E) U
def Gx (n : Nat) (U : Nat → Nat → Bool) : Nat := ((List.range n).map fun i => (List.range n).countP fun k => !U i k).sum
def Bq (U : Nat → Nat → Bool) (i : Nat) : Bool := (List.range i).all (U i)
def leU (U V : Nat → Nat → Bool) : Prop := ∀ x y, U x y = true → V x y = true
end
section
variable {a : Au} {E : List (List Bool)} {U V W : Nat → Nat → Bool}
theorem leU.rfl' : leU U U := fun _ _ h => h
theorem leU.trans (h : leU U V) (k : leU V W) : leU U W := fun x y e => k x y (h x y e)
theorem leU.antisymm (h : leU U V) (k : leU V U) : U = V := by
 funext x y
 rw [Bool.eq_iff_iff]
 exact ⟨h x y, k x y⟩
theorem Kp (U : Nat → Nat → Bool) (i k : Nat) : leU U (Ez U i k) := fun x y h => by simp [Ez, h]
theorem MH (i : Nat) (U : Nat → Nat → Bool) (k : Nat) : leU U (DM a E i U k) := by
 unfold DM
 split
 ·exact Kp _ _ _
 ·exact leU.rfl'
theorem I3 {α : Type} {f : (Nat → Nat → Bool) → α → Nat → Nat → Bool} (h : ∀ U x, leU U (f U x)) : ∀ (l : List α) (U : Nat → Nat → Bool), leU U (l.foldl f U)
 | [], U => leU.rfl'
 | x :: l, U => (h U x).trans (I3 h l (f U x))
theorem Rj (U : Nat → Nat → Bool) (i : Nat) : leU U (OW a E U i) := I3 (MH i) _ _
theorem Gm {α : Type} {f : (Nat → Nat → Bool) → α → Nat → Nat → Bool} (hp : ∀ U x, leU U (f U x)) : ∀ {l : List α} {U : Nat → Nat → Bool}, l.foldl f U = U → ∀ x ∈ l, f U x = U
 | [], U, h, x, hx => by cases hx
 | y :: l, U, h, x, hx => by
  have h1 : f U y = U := leU.antisymm (by have := I3 hp l (f U y); rw [show l.foldl f (f U y) = U from h] at this; exact this) (hp U y)
  rcases List.mem_cons.1 hx with rfl | hx
  ·exact h1
  ·refine Gm hp (l := l) ?_ x hx
   have h : l.foldl f (f U y) = U := h
   rw [h1] at h
   exact h
theorem Pk (h : J_ a E U = U) {i k : Nat} (hi : i < E.length) (hk : k < E.length) (hU : U i k = false) : B6 a E U i k = false := by
 have h1 := Gm (fun U i => Rj U i) h i (List.mem_range.2 hi)
 have h2 := Gm (fun U k => MH i U k) h1 k (List.mem_range.2 hk)
 cases hp : B6 a E U i k with
 | false => rfl
 | true =>
  unfold DM at h2
  rw [if_pos ⟨hU, hp⟩] at h2
  have := congrFun (congrFun h2 i) k
  rw [hU] at this
  simp [Ez] at this
theorem Pj : ∀ {l : List Nat} {f g : Nat → Nat}, (∀ x ∈ l, f x ≤ g x) → (∃ x ∈ l, f x < g x) → (l.map f).sum < (l.map g).sum
 | [], f, g, _, h => by obtain ⟨x, hx, _⟩ := h; cases hx
 | y :: l, f, g, h1, h2 => by
  have hle : ∀ {l : List Nat}, (∀ x ∈ l, f x ≤ g x) → (l.map f).sum ≤ (l.map g).sum := fun {l} => by
   induction l with
   | nil => intro _; exact Nat.le_refl _
   | cons z l ih =>
    intro h
    have := h z (by simp)
    have := ih fun x hx => h x (by simp [hx])
    simp only [List.map_cons, List.sum_cons]
    omega
  simp only [List.map_cons, List.sum_cons]
  have hy := h1 y (by simp)
  obtain ⟨x, hx, hlt⟩ := h2
  rcases List.mem_cons.1 hx with rfl | hx
  ·have := hle fun z hz => h1 z (List.mem_cons_of_mem _ hz)
   omega
  ·have := Pj (fun z hz => h1 z (List.mem_cons_of_mem _ hz)) ⟨x, hx, hlt⟩
   omega
theorem Ja : ∀ {l : List Nat} {p q : Nat → Bool}, (∀ x ∈ l, p x = true → q x = true) → (∃ x ∈ l, p x = false ∧ q x = true) → l.countP p < l.countP q
 | [], p, q, _, h => by obtain ⟨x, hx, _⟩ := h; cases hx
 | y :: l, p, q, h1, h2 => by
  have hle := List.countP_mono_left (l := l) (p := p) (q := q) fun x hx h => h1 x (by simp [hx]) h
  obtain ⟨x, hx, hp, hq⟩ := h2
  rw [List.countP_cons, List.countP_cons]
  rcases List.mem_cons.1 hx with rfl | hx
  ·rw [hp, hq]
   simp
   omega
  ·have := Ja (fun z hz => h1 z (List.mem_cons_of_mem _ hz)) ⟨x, hx, hp, hq⟩
   have h3 := h1 y (by simp)
   cases e1 : p y <;> cases e2 : q y <;> rw [e1, e2] at h3 <;> simp at h3 ⊢ <;> omega
theorem Rr {n : Nat} (h : leU U V) {i k : Nat} (hi : i < n) (hk : k < n) (h1 : U i k = false) (h2 : V i k = true) : Gx n V < Gx n U := by
 refine Pj (fun x hx => List.countP_mono_left fun y hy e => ?_) ⟨i, List.mem_range.2 hi, Ja (fun y hy e => ?_) ⟨k, List.mem_range.2 hk, by simp [h2], by simp [h1]⟩⟩
 ·cases hu : U x y with
  | false => rfl
  | true => rw [h x y hu] at e; exact e
 ·cases hu : U i y with
  | false => rfl
  | true => rw [h i y hu] at e; exact e
theorem Qw {n i k : Nat} (hi : i < n) (hk : k < n) (h1 : U i k = false) : Gx n (Ez U i k) < Gx n U := Rr (Kp U i k) hi hk h1 (by simp [Ez])
structure GU (a : Au) (E : List (List Bool)) (cls : Nat → Nat) : Prop where
 fin : ∀ i k, i < E.length → k < E.length → cls i = cls k → a.fin (E.getD i []) = a.fin (E.getD k [])
 stp : ∀ m ∈ a.moves, ∀ p i k o, p < m.frm.length → i < E.length → k < E.length → o < E.length → cls i = cls k → cls (FP a E m p i o) = cls (FP a E m p k o)
def RP (a : Au) (E : List (List Bool)) : Prop := ∀ m ∈ a.moves, ∀ p i o, p < m.frm.length → i < E.length → o < E.length → FP a E m p i o < E.length
def Snd (n : Nat) (cls : Nat → Nat) (U : Nat → Nat → Bool) : Prop := ∀ x y, x < n → y < n → U x y = true → cls x ≠ cls y
variable {cls : Nat → Nat}
theorem Snd.zero (h : GU a E cls) : Snd E.length cls (U0 a E) := fun x y hx hy hu e => by
 have := h.fin x y hx hy e
 unfold U0 at hu
 rw [this] at hu
 simp at hu
theorem F0 (h : GU a E cls) (hs : RP a E) (hU : Snd E.length cls U) {i k : Nat} (hi : i < E.length) (hk : k < E.length) (hp : B6 a E U i k = true) : cls i ≠ cls k := fun e => by
 unfold B6 at hp
 obtain ⟨m, hm, h1⟩ := List.any_eq_true.1 hp
 unfold H3 at h1
 obtain ⟨p, hp, h2⟩ := List.any_eq_true.1 h1
 unfold Nz at h2
 obtain ⟨o, ho, h3⟩ := List.any_eq_true.1 h2
 have hp := List.mem_range.1 hp
 have ho := List.mem_range.1 ho
 exact hU _ _ (hs m hm p i o hp hi ho) (hs m hm p k o hp hk ho) h3 (h.stp m hm p i k o hp hi hk ho e)
theorem Snd.set {n : Nat} (hU : Snd n cls U) {i k : Nat} (h : cls i ≠ cls k) : Snd n cls (Ez U i k) := fun x y hx hy hu => by
 unfold Ez at hu
 simp only [Bool.or_eq_true, Bool.and_eq_true, decide_eq_true_eq] at hu
 rcases hu with (⟨rfl, rfl⟩ | ⟨rfl, rfl⟩) | hu
 ·exact h
 ·exact fun e => h e.symm
 ·exact hU x y hx hy hu
theorem Snd.cell (h : GU a E cls) (hs : RP a E) (hU : Snd E.length cls U) {i k : Nat} (hi : i < E.length) (hk : k < E.length) : Snd E.length cls (DM a E i U k) := by
 unfold DM
 split
 ·rename_i hc
  exact hU.set (F0 h hs hU hi hk hc.2)
 ·exact hU
theorem MY {n : Nat} {h : Nat → ByteArray} {K : List ByteArray} (hK : K.Nodup) (hm : ∀ x, x ∈ K ↔ ∃ i, i < n ∧ x = h i) (hU : ∀ i k, i < n → k < n → (U i k = true ↔ h i ≠ h k)) : (List.range n).countP (Bq U) = K.length := by
 rw [List.countP_eq_length_filter]
 have hf : ∀ i, i < n → (Bq U i = true ↔ ∀ k, k < i → h i ≠ h k) := fun i hi => by
  unfold Bq
  rw [List.all_eq_true]
  exact ⟨fun g k hk => (hU i k hi (by omega)).1 (g k (List.mem_range.2 hk)), fun g k hk => (hU i k hi (by have := List.mem_range.1 hk; omega)).2 (g k (List.mem_range.1 hk))⟩
 have hnd : (((List.range n).filter (Bq U)).map h).Nodup := by
  rw [List.nodup_iff_pairwise_ne, List.pairwise_map]
  refine List.Pairwise.imp_of_mem ?_ (List.Pairwise.filter _ List.pairwise_lt_range)
  intro i j hi hj hij e
  obtain ⟨h1, h2⟩ := List.mem_filter.1 hj
  exact (hf j (List.mem_range.1 h1)).1 h2 i hij e.symm
 have hfirst : ∀ i, i < n → ∃ j, j < n ∧ Bq U j = true ∧ h j = h i := fun i => by
  induction i using Nat.strongRecOn with
  | _ i ih =>
   intro hi
   by_cases e : Bq U i = true
   ·exact ⟨i, hi, e, rfl⟩
   ·have : ¬ ∀ k, k < i → h i ≠ h k := fun g => e ((hf i hi).2 g)
    obtain ⟨k, hk⟩ := Classical.not_forall.1 this
    obtain ⟨hk, hk2⟩ := Classical.not_imp.1 hk
    have hk2 := Classical.not_not.1 hk2
    obtain ⟨j, h1, h2, h3⟩ := ih k hk (by omega)
    exact ⟨j, h1, h2, h3.trans hk2.symm⟩
 have l1 := DN hnd (m := K) fun x hx => by
  obtain ⟨i, hi, rfl⟩ := List.mem_map.1 hx
  exact (hm _).2 ⟨i, List.mem_range.1 (List.mem_filter.1 hi).1, rfl⟩
 have l2 := DN hK (m := ((List.range n).filter (Bq U)).map h) fun x hx => by
  obtain ⟨i, hi, rfl⟩ := (hm x).1 hx
  obtain ⟨j, h1, h2, h3⟩ := hfirst i hi
  rw [← h3]
  exact List.mem_map.2 ⟨j, List.mem_filter.2 ⟨List.mem_range.2 h1, h2⟩, rfl⟩
 rw [List.length_map] at l1 l2
 omega
end
section
variable {a : Au} {syms : List Sym} {R : List J} {E : List (List Bool)}
structure Co (a : Au) (syms : List Sym) (R : List J) (E : List (List Bool)) : Prop where
 ok : OkJ a auZ syms R
 two : ∀ s ∈ syms, s.2 ≤ 2
 sym : ∀ s, s ∈ syms ↔ ∃ m ∈ a.moves, s = m.sym
 shut : ∀ s ∈ syms, ∀ l : List J, l.length = s.2 → (∀ x ∈ l, x ∈ R) → nxt a auZ s.1 l ∈ R
 nod : E.Nodup
 mem : ∀ x, x ∈ E ↔ x ∈ R.map Prod.fst
 le : R.length ≤ 64
def ixR (R : List J) (x : List Bool) : Nat := (R.map Prod.fst).idxOf x
theorem Bl {x : List Bool} (h : x ∈ R.map Prod.fst) : ixR R x < R.length := by
 have := List.idxOf_lt_length_iff.2 h
 rw [List.length_map] at this
 exact this
theorem GQ {x : List Bool} (h : x ∈ R.map Prod.fst) : (R.getD (ixR R x) ([], [])).1 = x := by
 have hl := Bl h
 rw [List.getD_eq_getElem?_getD, List.getElem?_eq_getElem hl, Option.getD_some]
 have h2 : (R.map Prod.fst)[(R.map Prod.fst).idxOf x]'(List.idxOf_lt_length_iff.2 h) = x := List.getElem_idxOf _
 rw [List.getElem_map] at h2
 exact h2
theorem OL (H : Co a syms R E) {j : J} (hj : j ∈ R) : j.2 = [] := List.eq_nil_of_length_eq_zero (H.ok.gen j hj).len.2
theorem Pu (H : Co a syms R E) {i : Nat} (hi : i < R.length) : ixR R (R[i]).1 = i := by
 have hnd : (R.map Prod.fst).Nodup := by
  have h := H.ok.nod
  rw [List.nodup_iff_pairwise_ne, List.pairwise_iff_getElem] at h
  rw [List.nodup_iff_pairwise_ne, List.pairwise_map, List.pairwise_iff_getElem]
  intro i j hi hj hij e
  exact h i j hi hj hij (Prod.ext e (by rw [OL H (List.getElem_mem hi), OL H (List.getElem_mem hj)]))
 have h2 := hnd.idxOf_getElem i (by rw [List.length_map]; exact hi)
 rw [List.getElem_map] at h2
 exact h2
theorem DV {i : Nat} (hi : i < E.length) : E.getD i [] ∈ E := by
 rw [List.getD_eq_getElem?_getD, List.getElem?_eq_getElem hi]
 exact List.getElem_mem hi
theorem KX {x : List Bool} (h : x ∈ E) : E.getD (E.idxOf x) [] = x := by
 have hl := List.idxOf_lt_length_iff.2 h
 rw [List.getD_eq_getElem?_getD, List.getElem?_eq_getElem hl]
 exact List.getElem_idxOf _
theorem MQ {n p : Nat} {x z : List Bool} (hx : x ∈ R.map Prod.fst) (hz : z ∈ R.map Prod.fst) : (Aq R ((List.replicate n (ixR R z)).set p (ixR R x))).map Prod.fst = It n p x z := by
 refine List.ext_getElem (by simp [Aq, It]) fun q h1 h2 => ?_
 have hq : q < n := by simpa [It] using h2
 simp only [Aq, List.getElem_map, It, List.getElem_range, List.getElem_set, List.getElem_replicate]
 by_cases e : p = q
 ·subst e
  rw [if_pos rfl, if_pos rfl, GQ hx]
 ·rw [if_neg e, if_neg (fun h => e h.symm), GQ hz]
theorem Qk {l : List Nat} {p : Nat} (h2 : l.length ≤ 2) (hp : p < l.length) : ∃ z ∈ l, ∀ i, l.set p i = (List.replicate l.length z).set p i := by
 match l, h2, hp with
 | [y], _, hp =>
  have : p = 0 := by simpa using hp
  subst this
  exact ⟨y, by simp, fun i => rfl⟩
 | [y, y'], _, hp =>
  have : p = 0 ∨ p = 1 := by have : p < 2 := hp; omega
  rcases this with rfl | rfl
  ·exact ⟨y', by simp, fun i => rfl⟩
  ·exact ⟨y, by simp, fun i => rfl⟩
theorem LR (H : Co a syms R E) {m : Mv} (hm : m ∈ a.moves) {p : Nat} {x z : List Bool} (hx : x ∈ E) (hz : z ∈ E) : a.ending m.name (It m.frm.length p x z) ∈ E := by
 have hx' := (H.mem x).1 hx
 have hz' := (H.mem z).1 hz
 have hs := (H.sym m.sym).2 ⟨m, hm, rfl⟩
 have h := H.shut m.sym hs (Aq R ((List.replicate m.frm.length (ixR R z)).set p (ixR R x))) (by simp [Aq, Mv.sym]) (Dy fun i hi => by
  rcases List.mem_or_eq_of_mem_set hi with h | rfl
  ·rw [List.eq_of_mem_replicate h]; exact Bl hz'
  ·exact Bl hx')
 have h2 : (nxt a auZ m.sym.1 (Aq R ((List.replicate m.frm.length (ixR R z)).set p (ixR R x)))).1 = a.ending m.name (It m.frm.length p x z) := by
  show a.ending m.sym.1 ((Aq R _).map Prod.fst) = _
  rw [MQ hx' hz']
  rfl
 rw [H.mem, ← h2]
 exact List.mem_map.2 ⟨_, h, rfl⟩
theorem Hi (H : Co a syms R E) {m : Mv} {p : Nat} {x z : List Bool} (hx : x ∈ E) (hz : z ∈ E) : stp a R m.name ((List.replicate m.frm.length (ixR R z)).set p (ixR R x)) = ixR R (a.ending m.name (It m.frm.length p x z)) := by
 unfold stp
 rw [MQ ((H.mem x).1 hx) ((H.mem z).1 hz)]
 rfl
theorem Kk (H : Co a syms R E) : RP a E := fun m hm p i o hp hi ho => List.idxOf_lt_length_iff.2 (LR H hm (DV hi) (DV ho))
theorem Hm (H : Co a syms R E) {m : Mv} (hm : m ∈ a.moves) {p i o : Nat} (hi : i < E.length) (ho : o < E.length) : E.getD (FP a E m p i o) [] = a.ending m.name (It m.frm.length p (E.getD i []) (E.getD o [])) := KX (LR H hm (DV hi) (DV ho))
def Ot (a : Au) (syms : List Sym) (R : List J) (E : List (List Bool)) (t : Nat) (i : Nat) : Nat := (At a syms R t).getD (ixR R (E.getD i [])) 0
theorem Rx (H : Co a syms R E) {t : Nat} (hT : nK a syms R (t + 1) = nK a syms R t) : GU a E (Ot a syms R E (t + 1)) := by
 refine ⟨fun i k hi hk h => ?_, fun m hm p i k o hp hi hk ho h => ?_⟩
 ·have xi := (H.mem _).1 (DV hi)
  have xk := (H.mem _).1 (DV hk)
  have := MG H.le (Bl xi) (Bl xk) (t + 1) h
  have e1 := GQ xi
  have e2 := GQ xk
  rw [List.getD_eq_getElem?_getD, List.getElem?_eq_getElem (Bl xi), Option.getD_some] at e1
  rw [List.getD_eq_getElem?_getD, List.getElem?_eq_getElem (Bl xk), Option.getD_some] at e2
  rw [e1, e2] at this
  exact this
 ·have xi := (H.mem _).1 (DV hi)
  have xk := (H.mem _).1 (DV hk)
  have xo := (H.mem _).1 (DV ho)
  have hs := (H.sym m.sym).2 ⟨m, hm, rfl⟩
  have h1 := (Nv.1 (Ha H.le hT (Bl xi) (Bl xk) h)).2 m.sym hs (List.replicate m.frm.length (ixR R (E.getD o []))) ((DT (H.two _ hs)).2 ⟨by simp [Mv.sym], fun y hy => by rw [List.eq_of_mem_replicate hy]; exact Bl xo⟩) p (by simpa using hp)
  unfold Ot
  rw [Hm H hm hi ho, Hm H hm hk ho, ← Hi H (DV hi) (DV ho), ← Hi H (DV hk) (DV ho)]
  exact h1
theorem Lb (H : Co a syms R E) {U : Nat → Nat → Bool} (h0 : leU (U0 a E) U) (hf : J_ a E U = U) : ∀ t i k, i < E.length → k < E.length → U i k = false → Ot a syms R E t i = Ot a syms R E t k
 | 0, i, k, hi, hk, hu => by
  have hfin : a.fin (E.getD i []) = a.fin (E.getD k []) := by
   cases h : U0 a E i k with
   | true => rw [h0 i k h] at hu; cases hu
   | false => unfold U0 at h; simpa using h
  have key : ∀ i, i < E.length → Ot a syms R E 0 i = if a.fin (E.getD i []) = true then 1 else 0 := fun i hi => by
   have xi := (H.mem _).1 (DV hi)
   have e1 := GQ xi
   unfold Ot At Dg
   rw [List.getD_eq_getElem?_getD, List.getElem?_eq_getElem (Bl xi), Option.getD_some] at e1
   rw [List.getD_eq_getElem?_getD (l := R.map _), List.getElem?_map, List.getElem?_eq_getElem (Bl xi), Option.map_some, Option.getD_some, e1]
  rw [key i hi, key k hk, hfin]
 | t + 1, i, k, hi, hk, hu => by
  have xi := (H.mem _).1 (DV hi)
  have xk := (H.mem _).1 (DV hk)
  have ih := Lb H h0 hf t
  have hp := Pk hf hi hk hu
  have hsig : sig a syms R (At a syms R t) (ixR R (E.getD i [])) = sig a syms R (At a syms R t) (ixR R (E.getD k [])) := by
   refine Nv.2 ⟨ih i k hi hk hu, fun s hs l hl p hpl => ?_⟩
   obtain ⟨m, hm, rfl⟩ := (H.sym s).1 hs
   obtain ⟨q1, q2⟩ := (DT (H.two _ hs)).1 hl
   have q1 : l.length = m.frm.length := q1
   have h2 : l.length ≤ 2 := by have := H.two _ hs; rw [q1]; exact this
   obtain ⟨z, hz, hzs⟩ := Qk h2 hpl
   have hzl := q2 z hz
   have hzx : (R[z]).1 ∈ E := (H.mem _).2 (List.mem_map.2 ⟨_, List.getElem_mem hzl, rfl⟩)
   have hzi := Pu H hzl
   have ho : E.idxOf (R[z]).1 < E.length := List.idxOf_lt_length_iff.2 hzx
   have hoe := KX hzx
   rw [hzs, hzs, q1, show m.sym.1 = m.name from rfl, ← hzi, Hi H (DV hi) hzx, Hi H (DV hk) hzx, ← hoe, ← Hm H hm hi ho, ← Hm H hm hk ho]
   have hpm : p < m.frm.length := by omega
   refine ih _ _ (Kk H m hm p i _ hpm hi ho) (Kk H m hm p k _ hpm hk ho) ?_
   cases hv : U (FP a E m p i (E.idxOf (R[z]).1)) (FP a E m p k (E.idxOf (R[z]).1)) with
   | false => rfl
   | true =>
    exfalso
    have : B6 a E U i k = true := List.any_eq_true.2 ⟨m, hm, List.any_eq_true.2 ⟨p, List.mem_range.2 hpm, List.any_eq_true.2 ⟨_, List.mem_range.2 ho, hv⟩⟩⟩
    rw [hp] at this
    cases this
  show (fresh a syms R (At a syms R t)).getD _ 0 = (fresh a syms R (At a syms R t)).getD _ 0
  rw [CX (Bl xi), CX (Bl xk), hsig]
theorem Qr (H : Co a syms R E) {T : Nat} (hT : nK a syms R T = CB a syms R T) {U : Nat → Nat → Bool} (h0 : leU (U0 a E) U) (hf : J_ a E U = U) (hS : ∀ cls, GU a E cls → Snd E.length cls U) : (List.range E.length).countP (Bq U) = nK a syms R T := by
 cases T with
 | zero =>
  have hR := Ri hT
  have hE : E.length = 0 := by
   rcases Nat.eq_zero_or_pos E.length with h | h
   ·exact h
   ·have := (H.mem _).1 (DV h)
    have := Bl this
    omega
  rw [hT, hE]
  rfl
 | succ t =>
  have hT : nK a syms R (t + 1) = nK a syms R t := hT
  have hc := Rx H hT
  have hs := hS _ hc
  have hb : ∀ i, ∀ x ∈ sig a syms R (At a syms R (t + 1)) i, x < 100 := fun i x hx => by
   have := Ho (fun k => Ew k (t + 1)) i x hx
   have := H.le
   omega
  refine MY (h := fun i => BK (sig a syms R (At a syms R (t + 1)) (ixR R (E.getD i [])))) Cu (fun x => ?_) fun i k hi hk => ?_
  ·rw [BG]
   constructor
   ·rintro ⟨r, hr, rfl⟩
    have hx : (R[r]).1 ∈ E := (H.mem _).2 (List.mem_map.2 ⟨_, List.getElem_mem hr, rfl⟩)
    exact ⟨E.idxOf (R[r]).1, List.idxOf_lt_length_iff.2 hx, by rw [KX hx, Pu H hr]⟩
   ·rintro ⟨i, hi, rfl⟩
    exact ⟨_, Bl ((H.mem _).1 (DV hi)), rfl⟩
  ·have xi := Bl ((H.mem _).1 (DV hi))
   have xk := Bl ((H.mem _).1 (DV hk))
   constructor
   ·intro hu e
    exact hs i k hi hk hu (IE (GJ (hb _) (hb _) e))
   ·intro hne
    cases hu : U i k with
    | true => rfl
    | false => exact absurd (congrArg BK (Ha H.le hT xi xk (Lb H h0 hf (t + 1) i k hi hk hu))) hne
theorem Fg {a : Au} (hsm : Ak a = true) {E : List (List Bool)} (hE : E = (BT a auZ (CP a auZ)).map a.ends) : Co a (Ah [a]) (A7 a auZ (Ah [a])) E := by
 have hz : Ak auZ = true := by decide
 have hsy : Ah [a, auZ] = Ah [a] := by simp [Ah, auZ]
 obtain ⟨h1, h2⟩ := Cv hsm hz
 rw [hsy] at h1 h2
 have ha3 := Aa hsm
 have two : ∀ s ∈ Ah [a], s.2 ≤ 2 := fun s hs => by
  obtain ⟨m, hm, rfl⟩ := h2 s hs
  exact (h1 m hm).2
 have hz3 : auZ.states ≤ 3 := by decide
 have hok := FL (a := a) (b := auZ) two
 have hgm := fun j => N4 (a := a) (b := auZ) h1 h2 ha3 hz3 (j := j)
 have hrm := fun j => Fw (a := a) (b := auZ) two ha3 hz3 (j := j)
 have hEe : E = ((BT a auZ (CP a auZ)).map (EW a auZ)).map Prod.fst := by
  rw [hE, List.map_map]
  rfl
 refine ⟨hok, two, fun s => ?_, fun s hs l hl hx => Do two ha3 hz3 hs hl hx, ?_, fun x => ?_, hok.len ha3 hz3⟩
 ·rw [Cl]
  constructor
  ·rintro ⟨c, hc, m, hm, rfl⟩
   rw [List.mem_singleton.1 hc] at hm
   exact ⟨m, hm, rfl⟩
  ·rintro ⟨m, hm, rfl⟩
   exact ⟨a, by simp, m, hm, rfl⟩
 ·have hn := (EQ (a := a) (b := auZ) h1).nod
  rw [hEe, List.nodup_iff_pairwise_ne, List.pairwise_map]
  rw [List.nodup_iff_pairwise_ne] at hn
  refine hn.imp_of_mem ?_
  intro i j hi hj hne e
  have l1 := ((hgm i).1 hi).len.2
  have l2 := ((hgm j).1 hj).len.2
  exact hne (Prod.ext e (by rw [List.eq_nil_of_length_eq_zero l1, List.eq_nil_of_length_eq_zero l2]))
 ·rw [hEe, List.mem_map, List.mem_map]
  constructor
  ·rintro ⟨j, hj, rfl⟩
   exact ⟨j, (hrm j).2 ((hgm j).1 hj), rfl⟩
  ·rintro ⟨j, hj, rfl⟩
   exact ⟨j, (hgm j).2 ((hrm j).1 hj), rfl⟩
end

set_option maxRecDepth 100000
def KJ : IR :=
 (.seq (.ops [.i 2 (.mov (.c (.one (.st (.str (ByteArray.mk (#[])))))))]) (.seq (.ops [.i 3 (.mov (.c (.one (.st (.str (ByteArray.mk (#[])))))))]) (.seq (.seq (.ops [.i 4 (.mov (.n 0))]) (.block 0 (.loop (.seq (.seq (.ops [.m 5 4, .m 6 0, .i 7 (.len false (.t 6)), .i 8 (.bin .lss (.t 5) (.t 7))]) (.cond (.t 8) .skip (.exit 0))) (.seq (.block 1 (.seq (.ops [.m 11 0, .m 12 4, .i 13 (.indexAddr 1 (.t 11) (.t 12)), .l 14 13]) (.cond (.t 14) (.ops [.m 15 3, .i 16 (.bin .add (.t 15) (.c (.one (.st (.str (ByteArray.mk (#[49]))))))), .m 3 16]) (.ops [.m 17 3, .i 18 (.bin .add (.t 17) (.c (.one (.st (.str (ByteArray.mk (#[48]))))))), .m 3 18])))) (.ops [.m 9 4, .i 10 (.bin .add (.t 9) (.n 1)), .m 4 10])))))) (.seq (.ops [.m 19 3, .m 2 19]) .ret))))
theorem O8 : OkF Try.prog 25 20 [] KJ [.t 2] := .of Try.func25 rfl rfl (by kernel_rfl) rfl
def GF : IR :=
 (.seq (.ops [.i 2 (.box 25 (.t 0)), .i 3 (.box 25 (.t 1)), .i 4 (.mov (.c (.one (.full []))))]) (.seq (.ops [.i 5 (.mov (.c (.one (.full []))))]) (.seq (.ops [.i 6 (.mov (.c (.one (.full []))))]) (.seq (.ops [.i 18 (.buildSlice false 46 3 []), .f 19 1 2, .l 20 19, .mk (some 21) none (.append false 46 3 48 (.t 18) (.t 20)) (.keeps [3, 3]), .mk (some 22) none (.fieldAddr 1 (.t 3)) (.onb 3), .mk (some 23) none (.load false 1 (.t 22)) (.onb 3), .i 24 (.append false 46 3 48 (.t 21) (.t 23)), .m 7 24]) (.seq (.seq (.ops [.i 8 (.mov (.c (.one (.st (.bool true)))))]) (.block 0 (.loop (.seq (.seq (.ops [.m 25 8]) (.cond (.t 25) .skip (.exit 0))) (.block 1 (.seq (.ops [.i 8 (.mov (.c (.one (.st (.bool false)))))]) (.seq (.ops [.i 9 (.mov (.n 0))]) (.block 2 (.loop (.seq (.seq (.ops [.m 26 9, .m 27 7, .i 28 (.len false (.t 27)), .i 29 (.bin .lss (.t 26) (.t 28))]) (.cond (.t 29) .skip (.exit 2))) (.seq (.block 3 (.seq (.ops [.m 32 7, .m 33 9, .i 34 (.indexAddr 3 (.t 32) (.t 33)), .f 35 1 34, .l 36 35, .i 37 (.len false (.t 36)), .m 10 37]) (.seq (.ops [.m 38 5, .i 39 (.len false (.t 38)), .m 11 39]) (.seq (.seq (.ops [.m 40 10, .i 41 (.bin .gtr (.t 40) (.n 2)), .m 42 41, .mk (some 43) (some (42, false)) (.mov (.t 10)) .no, .mk (some 44) (some (42, false)) (.bin .gtr (.t 43) (.n 0)) .no, .mk (some 45) (some (42, false)) (.mov (.t 44)) .no, .mk (some 46) (some (45, true)) (.mov (.t 11)) .no, .mk (some 47) (some (45, true)) (.bin .eql (.t 46) (.n 0)) .no, .mk (some 48) (some (42, false)) (.pick (.t 45) (.t 47) (.c (.one (.st (.bool false))))) .no, .i 49 (.pick (.t 42) (.c (.one (.st (.bool true)))) (.t 48))]) (.cond (.t 49) (.exit 3) .skip)) (.seq (.ops [.i 12 (.mov (.n 1))]) (.seq (.seq (.ops [.i 13 (.mov (.n 0))]) (.block 4 (.loop (.seq (.seq (.ops [.m 50 13, .m 51 10, .i 52 (.bin .lss (.t 50) (.t 51))]) (.cond (.t 52) .skip (.exit 4))) (.seq (.block 5 (.ops [.m 55 12, .m 56 11, .i 57 (.bin .mul (.t 55) (.t 56)), .m 12 57])) (.ops [.m 53 13, .i 54 (.bin .add (.t 53) (.n 1)), .m 13 54])))))) (.seq (.ops [.i 14 (.mov (.n 0))]) (.block 6 (.loop (.seq (.seq (.ops [.m 58 14, .m 59 12, .i 60 (.bin .lss (.t 58) (.t 59))]) (.cond (.t 60) .skip (.exit 6))) (.seq (.block 7 (.seq (.ops [.m 63 7, .m 64 9, .i 65 (.indexAddr 3 (.t 63) (.t 64)), .f 66 0 65, .l 67 66, .i 68 (.build [.st (.str (ByteArray.mk (#[]))), .full []] [(0, 1, .t 67)]), .i 15 (.alloc 39 [.st (.str (ByteArray.mk (#[]))), .full []]), .s 2 15 68]) (.seq (.seq (.ops [.i 16 (.mov (.n 0))]) (.block 8 (.loop (.seq (.seq (.ops [.m 69 16, .m 70 10, .i 71 (.bin .lss (.t 69) (.t 70))]) (.cond (.t 71) .skip (.exit 8))) (.seq (.block 9 (.seq (.ops [.m 74 16, .i 75 (.bin .eql (.t 74) (.n 0))]) (.cond (.t 75) (.ops [.f 76 1 15, .l 77 76, .m 78 5, .m 79 14, .m 80 11, .i 81 (.bin .rem (.t 79) (.t 80)), .i 82 (.indexAddr 2 (.t 78) (.t 81)), .L 83 2 82, .i 84 (.buildSlice false 39 2 [.t 83]), .i 85 (.append false 39 2 40 (.t 77) (.t 84)), .f 86 1 15, .s 1 86 85]) (.ops [.f 87 1 15, .l 88 87, .m 89 5, .m 90 14, .m 91 11, .i 92 (.bin .quo (.t 90) (.t 91)), .i 93 (.indexAddr 2 (.t 89) (.t 92)), .L 94 2 93, .i 95 (.buildSlice false 39 2 [.t 94]), .i 96 (.append false 39 2 40 (.t 88) (.t 95)), .f 97 1 15, .s 1 97 96])))) (.ops [.m 72 16, .i 73 (.bin .add (.t 72) (.n 1)), .m 16 73])))))) (.seq (.ops [.L 98 3 2, .L 99 2 15, .i 100 (.call 26 [.t 98, .t 99]), .i 101 (.call 25 [.t 100]), .i 102 (.bin .add (.t 101) (.c (.one (.st (.str (ByteArray.mk (#[124]))))))), .L 103 3 3, .L 104 2 15, .i 105 (.call 26 [.t 103, .t 104]), .i 106 (.call 25 [.t 105]), .i 107 (.bin .add (.t 102) (.t 106)), .m 17 107]) (.seq (.ops [.m 108 17, .m 109 6, .i 110 (.call 51 [.t 108, .t 109]), .i 111 (.un .not (.t 110))]) (.cond (.t 111) (.seq (.ops [.m 112 6, .m 113 17, .i 114 (.buildFlat [.t 113]), .i 115 (.append false 9 1 16 (.t 112) (.t 114)), .m 6 115]) (.seq (.ops [.m 116 5, .L 117 2 15, .i 118 (.buildSlice false 39 2 [.t 117]), .i 119 (.append false 39 2 40 (.t 116) (.t 118)), .m 5 119]) (.ops [.i 8 (.mov (.c (.one (.st (.bool true)))))]))) .skip)))))) (.ops [.m 61 14, .i 62 (.bin .add (.t 61) (.n 1)), .m 14 62])))))))))))) (.ops [.m 30 9, .i 31 (.bin .add (.t 30) (.n 1)), .m 9 31])))))))))))) (.seq (.ops [.m 120 5, .m 4 120]) .ret))))))
theorem K9 : OkF Try.prog 24 121 [] GF [.t 4] := .of Try.func24 rfl rfl (by kernel_rfl) rfl
def FR : IR :=
 (.seq (.ops [.i 2 (.box 25 (.t 0)), .i 3 (.box 25 (.t 1)), .i 4 (.mov (.c (.one (.st (.bool false)))))]) (.seq (.ops [.L 7 3 2, .L 8 3 3, .i 9 (.call 24 [.t 7, .t 8]), .m 5 9]) (.seq (.seq (.ops [.i 6 (.mov (.n 0))]) (.block 0 (.loop (.seq (.seq (.ops [.m 10 6, .m 11 5, .i 12 (.len false (.t 11)), .i 13 (.bin .lss (.t 10) (.t 12))]) (.cond (.t 13) .skip (.exit 0))) (.seq (.block 1 (.seq (.ops [.L 16 3 2, .m 17 5, .m 18 6, .i 19 (.indexAddr 2 (.t 17) (.t 18)), .L 20 2 19, .i 21 (.call 27 [.t 16, .t 20]), .m 22 21, .mk (some 23) (some (22, true)) (.load true 3 (.t 3)) .no, .mk (some 24) (some (22, true)) (.mov (.t 5)) .no, .mk (some 25) (some (22, true)) (.mov (.t 6)) .no, .mk (some 26) (some (22, true)) (.indexAddr 2 (.t 24) (.t 25)) .no, .mk (some 27) (some (22, true)) (.load true 2 (.t 26)) .no, .mk (some 28) (some (22, true)) (.call 27 [.t 23, .t 27]) .no, .mk (some 29) (some (22, true)) (.un .not (.t 28)) .no, .i 30 (.pick (.t 22) (.t 29) (.c (.one (.st (.bool false)))))]) (.cond (.t 30) (.seq (.ops [.i 4 (.mov (.c (.one (.st (.bool false)))))]) .ret) .skip))) (.ops [.m 14 6, .i 15 (.bin .add (.t 14) (.n 1)), .m 6 15])))))) (.seq (.ops [.i 4 (.mov (.c (.one (.st (.bool true)))))]) .ret))))
theorem JS : OkF Try.prog 11 31 [] FR [.t 4] := .of Try.func11 rfl rfl (by kernel_rfl) rfl

end Go.Proofs.Ytkegjgodjigjfaa
