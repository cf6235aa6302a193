/-
  Proved: for every text and list of names, reading gives the lambda term or the error of M4: the law LambdaParses returns true; as a tied card. Conditions: none.
-/
import Derived.Test.YtgpaahlkjibihaaDoorLaP7
import Derived.Test.YtgpaahlkjibihaaDoorRows
import Derived.ProofKit
import Derived.OpenShut
import Derived.JoinedCond
import Derived.Deep.Slices
import Derived.Test.YtgpaahlkjibihaaDoorTie
import Derived.Test.YtgpaahlkjibihaaDoorCards
import Derived.LaidMore
import Derived.MakeChecks
import Derived.Stop.Joined
import Derived.Lib.LaidTab
import Derived.Lib.ItoaNum
import Derived.LaidLaws
namespace Go.Proofs.YtgpaahlkjibihaaDoor
open Go Go.RowKit
set_option linter.unusedVariables false
set_option linter.unusedSimpArgs false
set_option maxHeartbeats 2000000
abbrev boxT0l : ABlk := .box 25 [.st (.int .i64 0), .st (.int .i64 0), .full []]
abbrev boxTl (t : Lm) : ABlk := .box 25 [.st (.int .i64 t.kind), .st (.int .i64 t.idx), .st (.list (t.subs.map encL))]
def RT (s : ByteArray) (f : Nat) : Prop := ∀ (ns : List ByteArray) (at_ k b : Nat) (S : AStore), at_ ≤ s.size → k ≤ 200 → 3 * (s.size - at_) + 2 < f → ns.length + (s.size - at_) ≤ 900000 → 1000 ≤ b → S b = some (boxS s at_ k 0) →
  ACallsS Tryd.prog 12 [.one (.ptr b 1 0 0), aStrs ns] S (aLm (lrT s f ns at_ k).t) (updE S b (some (boxS s (lrT s f ns at_ k).i (lrT s f ns at_ k).k (lrT s f ns at_ k).e)))
def RP (s : ByteArray) (f : Nat) : Prop := ∀ (ns : List ByteArray) (at_ k b : Nat) (S : AStore), at_ ≤ s.size → k ≤ 200 → 3 * (s.size - at_) + 1 < f → ns.length + (s.size - at_) ≤ 900000 → 1000 ≤ b → S b = some (boxS s at_ k 0) →
  ACallsS Tryd.prog 30 [.one (.ptr b 1 0 0), aStrs ns] S (aLm (lrP s f ns at_ k).t) (updE S b (some (boxS s (lrP s f ns at_ k).i (lrP s f ns at_ k).k (lrP s f ns at_ k).e)))
theorem rend {C : Ctx} {S : AStore} {x : AS} {b : Nat} {s : ByteArray} {i k : Nat} {e : Int} {t : Lm} (hS : Clean S) (hb : 1000 ≤ b) (h4 : x.env 4 = .one (.ptr 4 1 0 0)) (s4 : x.S 4 = some (boxTl t)) (sb : x.S b = some (boxS s i k e)) (hr : ∀ j, 1000 ≤ j → j ≠ b → x.S j = S j) : FinS C [.cell 4 true 3] (aLm t) (updE S b (some (boxS s i k e))) .ret x :=
  finS_one (aLm t) hS hb rfl trivial (by simp [resAll, resOne, tupV, h4, s4, blkCells, pack]) rfl sb hr
theorem rend0 {C : Ctx} {S : AStore} {x : AS} {b : Nat} {s : ByteArray} {i k : Nat} {e : Int} (hS : Clean S) (hb : 1000 ≤ b) (h4 : x.env 4 = .one (.ptr 4 1 0 0)) (s4 : x.S 4 = some boxT0l) (sb : x.S b = some (boxS s i k e)) (hr : ∀ j, 1000 ≤ j → j ≠ b → x.S j = S j) : FinS C [.cell 4 true 3] (aLm .nil) (updE S b (some (boxS s i k e))) .ret x :=
  finS_one (.agg [.st (.int .i64 0), .st (.int .i64 0), .full []]) hS hb rfl trivial (by simp [resAll, resOne, tupV, h4, s4, blkCells, pack]) rfl sb hr
theorem rterm_skip {s : ByteArray} {ns : List ByteArray} {i k b : Nat} {e : Int} {S : AStore} (hb : 1000 ≤ b) (he : ¬ e = 0) (sb : S b = some (boxS s i k e)) : ACallsS Tryd.prog 12 [.one (.ptr b 1 0 0), aStrs ns] S (aLm .nil) S := by
  refine ok_metaprune_R_state_term.acS fun hS C hC => ?_
  unfold ir_metaprune_R_state_term
  have n4 : S 4 = none := clean_none hS (by omega)
  repeat' (first | (with_reducible first | refine W ?_ | refine Wz0 ?_) | ((with_reducible first | refine Wo (fun K hK => ?_) | refine Wp ?_ | refine Wq ?_ | refine Wr ?_); (try simp only [go_sem, fN, seval, eT, iR, AS.startS, hi_ne, lo_ne, hb, sb, he, n4, dT, dF, nL]); (repeat with_reducible refine Ai ?_); (try (refine hK _ ?_; clear hK K)); (try with_reducible refine iC ?_)))
  refine finS_same (.agg [.st (.int .i64 0), .st (.int .i64 0), .full []]) hS trivial (by simp only [go_sem, fN, seval, eT, iR, resAll, resOne, tupV, hi_ne, lo_ne, hb]) rfl fun i hi => ?_
  simp only [go_sem, fN, seval, eT, iR, hi_ne, lo_ne, hi]
theorem rpiece_skip {s : ByteArray} {ns : List ByteArray} {i k b : Nat} {e : Int} {S : AStore} (hb : 1000 ≤ b) (he : ¬ e = 0) (sb : S b = some (boxS s i k e)) : ACallsS Tryd.prog 30 [.one (.ptr b 1 0 0), aStrs ns] S (aLm .nil) S := by
  refine ok_metaprune_R_state_piece.acS fun hS C hC => ?_
  unfold ir_metaprune_R_state_piece
  have n4 : S 4 = none := clean_none hS (by omega)
  repeat' (first | (with_reducible first | refine W ?_ | refine Wz0 ?_) | ((with_reducible first | refine Wo (fun K hK => ?_) | refine Wp ?_ | refine Wq ?_ | refine Wr ?_); (try simp only [go_sem, fN, seval, eT, iR, AS.startS, hi_ne, lo_ne, hb, sb, he, n4, dT, dF, nL]); (repeat with_reducible refine Ai ?_); (try (refine hK _ ?_; clear hK K)); (try with_reducible refine iC ?_)))
  refine finS_same (.agg [.st (.int .i64 0), .st (.int .i64 0), .full []]) hS trivial (by simp only [go_sem, fN, seval, eT, iR, resAll, resOne, tupV, hi_ne, lo_ne, hb]) rfl fun i hi => ?_
  simp only [go_sem, fN, seval, eT, iR, hi_ne, lo_ne, hi]
theorem acallsR_ofS {P : Program} {f : FuncId} {xs : List AV} {S S' : AStore} {r : AV} (h : ACallsS P f xs S r S') : ACallsR P f xs S (fun r' S'' => r' = r ∧ S'' = S') := fun hclean σ w vs ι h1 h2 h3 h4 => (h hclean σ w vs ι h1 h2 h3 h4).mono fun e w' ⟨v, σ', ι', q1, q2, q3⟩ => ⟨v, r, S', σ', ι', q1, ⟨rfl, rfl⟩, q2, q3⟩
theorem argX_arow {S : AStore} {id n : Nat} {e : TypeId} {ns : List ByteArray} (h : S id = some (.arow e 1 (ns.map encS))) (hn : n = ns.length) : argX S (.one (.row id n)) = aStrs ns := by
  subst hn
  simp [argX, outV, outC, stC, h]
theorem callX_term {P : Program} {f : FuncId} {S T T' : AStore} {b id n : Nat} {e : TypeId} {ns : List ByteArray} {r : AV} {d : Option Nat} {l : List Ins} {env : Nat → AV} {K : AS → Prop} (hb : 1000 ≤ b) (hrow : S id = some (.arow e 1 (ns.map encS))) (hn : n = ns.length) (hT : Clean T) (hST : ∀ i, 1000 ≤ i → S i = T i) (hc : ACallsS P f [.one (.ptr b 1 0 0), aStrs ns] T r T') (h : Run P l ((⟨env, joinS S T'⟩ : AS).put d r) K) :
    CallXG P S (AV.highs [argX S (.one (.ptr b 1 0 0)), argX S (.one (.row id n))]) (ACallsR P f [argX S (.one (.ptr b 1 0 0)), argX S (.one (.row id n))]) d l env K := by
  rw [argX_arow hrow hn]
  refine CallXG.mk T _ hT hST ?_ (acallsR_ofS hc) ?_
  · show (AC.high (.ptr b 1 0 0) && _) = true
    rw [high_ptr hb]
    rfl
  · rintro r' S' hcl ⟨rfl, rfl⟩
    exact h
theorem up_boxS {S : AStore} {b i k : Nat} {s : ByteArray} {e : Int} (h : S b = some (boxS s i k e)) : upS S (up1 b) = some (boxS s i k e) := upS_some h
theorem constOf_range (n : ByteArray) : -1 ≤ constOf n ∧ constOf n < 40 := by
  unfold constOf
  cases hf : (List.range 40).find? (fun k => decide (n = cNm ++ dec2 k)) with
  | none => exact ⟨by decide, by decide⟩
  | some k =>
    have h2 := List.mem_of_find?_eq_some hf
    rw [List.mem_range] at h2
    exact ⟨by show -1 ≤ (k : Int); omega, by show (k : Int) < 40; omega⟩
set_option maxRecDepth 100000 in
theorem rpiece_S {s : ByteArray} (hs : s.size ≤ 100000) {f : Nat} (hT : RT s f) : RP s (f + 1) := by
  intro ns at_ k b S hat hk hf hN hb sb
  obtain ⟨q, hq⟩ : ∃ q, lrP s (f + 1) ns at_ k = q := ⟨_, rfl⟩
  rw [hq]
  refine ok_metaprune_R_state_piece.acS fun hS C hC => ?_
  unfold ir_metaprune_R_state_piece
  have n4 : S 4 = none := clean_none hS (by omega)
  have n5 : S 5 = none := clean_none hS (by omega)
  repeat' (first | (with_reducible first | refine W ?_ | refine Wz0 ?_) | ((with_reducible first | refine Wo (fun K hK => ?_) | refine Wp ?_ | refine Wq ?_ | refine Wr ?_); (try simp only [go_sem, fN, seval, eT, iR, AS.startS, hi_ne, lo_ne, hb, sb, n4, n5, dT, dF, nL]); (repeat with_reducible refine Ai ?_); (try (refine hK _ ?_; clear hK K)); (try with_reducible refine iC ?_)))
  refine ⟨_, _, is_S (s := s) (i := at_) (k := k) (e := 0) 40 (up1_le b) (up_boxS (by simp only [go_sem, fN, seval, eT, iR, hi_ne, lo_ne, hb, sb])), ?_⟩
  by_cases h0 : at_ < s.size ∧ byteAt s at_ = 40
  · rw [lrP, if_pos h0] at hq
    rw [decide_eq_true h0]
    obtain ⟨h0, h0'⟩ := h0
    have hc := hT ns (at_ + 1) k (up1 b)
    have hca : ((at_ + 1 : Nat) : Int) = (at_ : Int) + 1 := by omega
    have hqo := lrT_ok s f ns (at_ + 1) k (by omega) hk (by omega)
    repeat' (first | (with_reducible first | refine W ?_ | refine Wz0 ?_) | ((with_reducible first | refine Wo (fun K hK => ?_) | refine Wp ?_ | refine Wq ?_ | refine Wr ?_); (try simp only [go_sem, fN, seval, eT, iR, hi_ne, lo_ne, hb, sb, n4, n5, dT, dF, nL]); (repeat with_reducible refine Ai ?_); (try (refine hK _ ?_; clear hK K)); (try with_reducible refine iC ?_)))
    refine ⟨_, _, hc _ (by omega) hk (by omega) (by omega) (up1_le b) (up_boxS (by simp only [go_sem, fN, seval, eT, iR, hi_ne, lo_ne, hb, boxS, hca])), ?_⟩
    clear hc hT
    generalize lrT s f ns (at_ + 1) k = p at *
    by_cases he : p.e = 0
    · rw [if_pos he] at hq
      obtain ⟨o1, o2, o3, o4⟩ := hqo.ok he
      subst hq
      repeat' (first | (with_reducible first | refine W ?_ | refine Wz0 ?_) | ((with_reducible first | refine Wo (fun K hK => ?_) | refine Wp ?_ | refine Wq ?_ | refine Wr ?_); (try simp only [go_sem, fN, seval, eT, iR, hi_ne, lo_ne, hb, n4, n5, he, dT, dF, nL]); (repeat with_reducible refine Ai ?_); (try (refine hK _ ?_; clear hK K)); (try with_reducible refine iC ?_)))
      refine ⟨_, _, want_S (s := s) (i := p.i) (k := p.k) 41 hs o1 (up1_le b) (up_boxS (by simp only [go_sem, fN, seval, eT, iR, hi_ne, lo_ne, hb, he])), ?_⟩
      repeat' (first | (with_reducible first | refine W ?_ | refine Wz0 ?_) | ((with_reducible first | refine Wo (fun K hK => ?_) | refine Wp ?_ | refine Wq ?_ | refine Wr ?_); (try simp only [go_sem, fN, seval, eT, iR, hi_ne, lo_ne, hb, n4, n5, he, dT, dF, nL]); (repeat with_reducible refine Ai ?_); (try (refine hK _ ?_; clear hK K)); (try with_reducible refine iC ?_)))
      refine rend hS hb ?_ ?_ ?_ fun j j1 j2 => ?_
      · simp only [go_sem, fN, seval, eT, iR]
      · simp only [go_sem, fN, seval, eT, iR, hi_ne, lo_ne, hb]
      · simp only [go_sem, fN, seval, eT, iR, hi_ne, lo_ne, hb]
      · simp only [go_sem, fN, seval, eT, iR, hi_ne, lo_ne, j1, j2]
    · rw [if_neg he] at hq
      subst hq
      repeat' (first | (with_reducible first | refine W ?_ | refine Wz0 ?_) | ((with_reducible first | refine Wo (fun K hK => ?_) | refine Wp ?_ | refine Wq ?_ | refine Wr ?_); (try simp only [go_sem, fN, seval, eT, iR, hi_ne, lo_ne, hb, n4, n5, dT, dF, nL]); (repeat with_reducible refine Ai ?_); (try (refine hK _ ?_; clear hK K)); (try with_reducible refine iC ?_)))
      refine ⟨_, _, want_skip (s := s) (i := p.i) (k := p.k) (e := p.e) 41 (up1_le b) he (up_boxS (by simp only [go_sem, fN, seval, eT, iR, hi_ne, lo_ne, hb])), ?_⟩
      repeat' (first | (with_reducible first | refine W ?_ | refine Wz0 ?_) | ((with_reducible first | refine Wo (fun K hK => ?_) | refine Wp ?_ | refine Wq ?_ | refine Wr ?_); (try simp only [go_sem, fN, seval, eT, iR, hi_ne, lo_ne, hb, n4, n5, dT, dF, nL]); (repeat with_reducible refine Ai ?_); (try (refine hK _ ?_; clear hK K)); (try with_reducible refine iC ?_)))
      refine rend hS hb ?_ ?_ ?_ fun j j1 j2 => ?_
      · simp only [go_sem, fN, seval, eT, iR]
      · simp only [go_sem, fN, seval, eT, iR, hi_ne, lo_ne, hb]
      · simp only [go_sem, fN, seval, eT, iR, hi_ne, lo_ne, hb]
      · simp only [go_sem, fN, seval, eT, iR, hi_ne, lo_ne, j1, j2]
  rw [lrP, if_neg h0] at hq
  rw [decide_eq_false h0]
  clear hT
  obtain ⟨m1, m2, m3, m4⟩ := nmErr_ok hat
  repeat' (first | (with_reducible first | refine W ?_ | refine Wz0 ?_) | ((with_reducible first | refine Wo (fun K hK => ?_) | refine Wp ?_ | refine Wq ?_ | refine Wr ?_); (try simp only [go_sem, fN, seval, eT, iR, hi_ne, lo_ne, hb, sb, n4, n5, dT, dF, nL]); (repeat with_reducible refine Ai ?_); (try (refine hK _ ?_; clear hK K)); (try with_reducible refine iC ?_)))
  refine ⟨_, _, sname_S (s := s) (i := at_) (k := k) hs hat (up1_le b) (up_boxS (by simp only [go_sem, fN, seval, eT, iR, hi_ne, lo_ne, hb, sb])), ?_⟩
  by_cases he : nmErr s at_ = 0
  case neg =>
    rw [if_neg he] at hq
    subst hq
    repeat' (first | (with_reducible first | refine W ?_ | refine Wz0 ?_) | ((with_reducible first | refine Wo (fun K hK => ?_) | refine Wp ?_ | refine Wq ?_ | refine Wr ?_); (try simp only [go_sem, fN, seval, eT, iR, hi_ne, lo_ne, hb, n4, n5, he, dT, dF, nL]); (repeat with_reducible refine Ai ?_); (try (refine hK _ ?_; clear hK K)); (try with_reducible refine iC ?_)))
    refine rend0 hS hb ?_ ?_ ?_ fun j j1 j2 => ?_
    · simp only [go_sem, fN, seval, eT, iR]
    · simp only [go_sem, fN, seval, eT, iR, hi_ne, lo_ne, hb]
    · simp only [go_sem, fN, seval, eT, iR, hi_ne, lo_ne, hb]
    · simp only [go_sem, fN, seval, eT, iR, hi_ne, lo_ne, j1, j2]
  rw [if_pos he] at hq
  obtain ⟨nm, hnm⟩ : ∃ nm, nmAt s at_ = nm := ⟨_, rfl⟩
  rw [hnm] at hq ⊢
  generalize lendA s at_ = j1 at *
  repeat' (first | (with_reducible first | refine W ?_ | refine Wz0 ?_) | ((with_reducible first | refine Wo (fun K hK => ?_) | refine Wp ?_ | refine Wq ?_ | refine Wr ?_); (try simp only [go_sem, fN, seval, eT, iR, hi_ne, lo_ne, hb, n4, n5, he, dT, dF, nL]); (repeat with_reducible refine Ai ?_); (try (refine hK _ ?_; clear hK K)); (try with_reducible refine iC ?_)))
  refine ⟨_, _, knot_S (s := s) (i := j1) (k := k) (up1_le b) (by omega) (up_boxS (by simp only [go_sem, fN, seval, eT, iR, hi_ne, lo_ne, hb, he])), ?_⟩
  obtain ⟨ek, hek⟩ : ∃ ek : Int, (if 200 < k + 1 then 3 else 0) = ek := ⟨_, rfl⟩
  rw [hek]
  repeat' (first | (with_reducible first | refine W ?_ | refine Wz0 ?_) | ((with_reducible first | refine Wo (fun K hK => ?_) | refine Wp ?_ | refine Wq ?_ | refine Wr ?_); (try simp only [go_sem, fN, seval, eT, iR, hi_ne, lo_ne, hb, n4, n5, dT, dF, nL]); (repeat with_reducible refine Ai ?_); (try (refine hK _ ?_; clear hK K)); (try with_reducible refine iC ?_)))
  refine IWP.loop (fun m x => ∃ j, j ≤ ns.length ∧ m = j ∧ (∀ j', j ≤ j' → j' < ns.length → ¬ decide (ns.getD j' .empty = nm) = true) ∧ x.env 0 = .one (.ptr b 1 0 0) ∧ x.env 1 = aStrs ns ∧ x.env 4 = .one (.ptr 4 1 0 0) ∧ x.env 6 = aStr nm ∧ x.env 7 = aInt ((j : Int) - 1) ∧ x.S 4 = some boxT0l ∧ x.S b = some (boxS s j1 (k + 1) ek) ∧ ∀ j, 1000 ≤ j → j ≠ b → x.S j = S j) ns.length ⟨ns.length, Nat.le_refl _, rfl, fun j' h1 h2 => by omega, ?_⟩ ?_
  · simp only [go_sem, fN, seval, eT, iR, hi_ne, lo_ne, hb, AS.startS]
    intro j j1 j2
    simp only [go_sem, fN, seval, eT, iR, hi_ne, lo_ne, hb, j1, j2]
  rintro m ⟨env, S1⟩ ⟨j, hj, rfl, hno, v0, v1, v4, v6, v7, t4, tb, hrest⟩
  simp only at v0 v1 v4 v6 v7 t4 tb hrest
  by_cases hj0 : m = 0
  · have hg : ¬ (0 : Int) ≤ (m : Int) - 1 := by omega
    have hbd : boundAt ns nm = none := backF_none fun j' h => hno j' (by omega) h
    have hqc : q = ⟨.mk 4 (constOf nm) [], j1, k + 1, if 200 < k + 1 then 3 else if constOf nm < 0 then 15 else 0⟩ := by
      rw [← hq]
      unfold lrV
      rw [hbd]
    clear hq
    subst hqc
    have hcr := constOf_range nm
    have hca : ((k + 1 : Nat) : Int) = (k : Int) + 1 := by omega
    by_cases hc0 : constOf nm < 0
    · by_cases hk2 : 200 < k + 1
      · rw [if_pos hk2] at hek
        dsimp only
        rw [if_pos hk2]
        subst hek
        repeat' (first | (with_reducible first | refine W ?_ | refine Wz0 ?_) | refine Cg _ (constOf_a nm) ?_ | refine Cg _ (lCon_a (constOf nm)) ?_ | ((with_reducible first | refine Wo (fun K hK => ?_) | refine Wp ?_ | refine Wq ?_ | refine Wr ?_); (try simp only [go_sem, fN, seval, eT, iR, v0, v1, v4, v6, v7, hg, hi_ne, lo_ne, hb, t4, tb, hc0, dT, dF, nL]); (repeat with_reducible refine Ai ?_); (try (refine hK _ ?_; clear hK K)); (try with_reducible refine iC ?_)))
        refine rend hS hb ?_ ?_ ?_ fun jj h1 h2 => ?_
        · simp only [go_sem, fN, seval, eT, iR, v4]
        · simp only [go_sem, fN, seval, eT, iR, hi_ne, lo_ne, hb]
          try rfl
        · simp only [go_sem, fN, seval, eT, iR, hi_ne, lo_ne, hb, tb]
        · simp only [go_sem, fN, seval, eT, iR, hi_ne, lo_ne, h1, h2]
          exact hrest jj h1 h2
      · rw [if_neg hk2] at hek
        dsimp only
        rw [if_neg hk2, if_pos hc0]
        subst hek
        repeat' (first | (with_reducible first | refine W ?_ | refine Wz0 ?_) | refine Cg _ (constOf_a nm) ?_ | refine Cg _ (lCon_a (constOf nm)) ?_ | ((with_reducible first | refine Wo (fun K hK => ?_) | refine Wp ?_ | refine Wq ?_ | refine Wr ?_); (try simp only [go_sem, fN, seval, eT, iR, v0, v1, v4, v6, v7, hg, hi_ne, lo_ne, hb, t4, tb, hc0, dT, dF, nL]); (repeat with_reducible refine Ai ?_); (try (refine hK _ ?_; clear hK K)); (try with_reducible refine iC ?_)))
        refine rend hS hb ?_ ?_ ?_ fun jj h1 h2 => ?_
        · simp only [go_sem, fN, seval, eT, iR, v4]
        · simp only [go_sem, fN, seval, eT, iR, hi_ne, lo_ne, hb]
          try rfl
        · simp only [go_sem, fN, seval, eT, iR, hi_ne, lo_ne, hb, tb]
        · simp only [go_sem, fN, seval, eT, iR, hi_ne, lo_ne, h1, h2]
          exact hrest jj h1 h2
    · dsimp only
      rw [if_neg hc0, hek]
      repeat' (first | (with_reducible first | refine W ?_ | refine Wz0 ?_) | refine Cg _ (constOf_a nm) ?_ | refine Cg _ (lCon_a (constOf nm)) ?_ | ((with_reducible first | refine Wo (fun K hK => ?_) | refine Wp ?_ | refine Wq ?_ | refine Wr ?_); (try simp only [go_sem, fN, seval, eT, iR, v0, v1, v4, v6, v7, hg, hi_ne, lo_ne, hb, t4, tb, hc0, dT, dF, nL]); (repeat with_reducible refine Ai ?_); (try (refine hK _ ?_; clear hK K)); (try with_reducible refine iC ?_)))
      refine rend hS hb ?_ ?_ ?_ fun jj h1 h2 => ?_
      · simp only [go_sem, fN, seval, eT, iR, v4]
      · simp only [go_sem, fN, seval, eT, iR, hi_ne, lo_ne, hb]
        try rfl
      · simp only [go_sem, fN, seval, eT, iR, hi_ne, lo_ne, hb, tb]
      · simp only [go_sem, fN, seval, eT, iR, hi_ne, lo_ne, h1, h2]
        exact hrest jj h1 h2
  · have hg : (0 : Int) ≤ (m : Int) - 1 := by omega
    obtain ⟨x, hx⟩ := get_lt (show m - 1 < ns.length by omega)
    have hgd : ns.getD (m - 1) .empty = x := by simp [List.getD, hx]
    have hm1 : (m : Int) - 1 = ((m - 1 : Nat) : Int) := by omega
    rw [hm1] at v7
    have hg2 : (0 : Int) ≤ ((m - 1 : Nat) : Int) := by omega
    by_cases hxn : x = nm
    · have hbd : boundAt ns nm = some (m - 1) := backF_some (by rw [hgd, hxn]; simp) (by omega) fun j' h1 h2 => hno j' (by omega) h2
      have hqc : q = ⟨.v ((ns.length : Int) - 1 - ((m - 1 : Nat) : Int)), j1, k + 1, ek⟩ := by
        rw [← hq, ← hek]
        unfold lrV
        rw [hbd]
      clear hq
      subst hqc
      repeat' (first | (with_reducible first | refine W ?_ | refine Wz0 ?_) | refine Cg _ (lVar_a ((ns.length : Int) - 1 - ((m - 1 : Nat) : Int))) ?_ | ((with_reducible first | refine Wo (fun K hK => ?_) | refine Wp ?_ | refine Wq ?_ | refine Wr ?_); (try simp only [go_sem, fN, seval, eT, iR, v0, v1, v4, v6, v7, hg2, hx, hxn, hi_ne, lo_ne, hb, t4, tb, dT, dF, nL]); (repeat with_reducible refine Ai ?_); (try (refine hK _ ?_; clear hK K)); (try with_reducible refine iC ?_)))
      refine rend hS hb ?_ ?_ ?_ fun jj h1 h2 => ?_
      · simp only [go_sem, fN, seval, eT, iR, v4]
      · simp only [go_sem, fN, seval, eT, iR, hi_ne, lo_ne, hb]
        try rfl
      · simp only [go_sem, fN, seval, eT, iR, hi_ne, lo_ne, hb, tb]
      · simp only [go_sem, fN, seval, eT, iR, hi_ne, lo_ne, h1, h2]
        exact hrest jj h1 h2
    · repeat' (first | (with_reducible first | refine W ?_ | refine Wz0 ?_) | ((with_reducible first | refine Wo (fun K hK => ?_) | refine Wp ?_ | refine Wq ?_ | refine Wr ?_); (try simp only [go_sem, fN, seval, eT, iR, v0, v1, v4, v6, v7, hg2, hx, hxn, hi_ne, lo_ne, hb, t4, tb, dT, dF, nL]); (repeat with_reducible refine Ai ?_); (try (refine hK _ ?_; clear hK K)); (try with_reducible refine iC ?_)))
      refine then_normal ⟨m - 1, by omega, m - 1, by omega, rfl, fun j' h1 h2 => ?_, ?_⟩
      · by_cases e : j' = m - 1
        · rw [e, hgd]
          simpa using hxn
        · have := hno j' (by omega) h2
          simpa using this
      · simp only [go_sem, fN, seval, eT, iR, v0, v1, v4, v6, v7, t4, tb]
        exact hrest
set_option maxRecDepth 100000 in
theorem rterm_S {s : ByteArray} (hs : s.size ≤ 100000) {f : Nat} (hT : RT s f) (hP : ∀ g, g ≤ f → RP s g) : RT s (f + 1) := by
  intro ns at_ k b S hat hk hf hN hb sb
  obtain ⟨q, hq⟩ : ∃ q, lrT s (f + 1) ns at_ k = q := ⟨_, rfl⟩
  rw [hq]
  refine ok_metaprune_R_state_term.acS fun hS C hC => ?_
  unfold ir_metaprune_R_state_term
  have n4 : S 4 = none := clean_none hS (by omega)
  have n6 : S 6 = none := clean_none hS (by omega)
  have n31 : S 31 = none := clean_none hS (by omega)
  have n34 : S 34 = none := clean_none hS (by omega)
  repeat' (first | (with_reducible first | refine W ?_ | refine Wz0 ?_) | ((with_reducible first | refine Wo (fun K hK => ?_) | refine Wp ?_ | refine Wq ?_ | refine Wr ?_); (try simp only [go_sem, fN, seval, eT, iR, AS.startS, hi_ne, lo_ne, hb, sb, n4, n6, dT, dF, nL]); (repeat with_reducible refine Ai ?_); (try (refine hK _ ?_; clear hK K)); (try with_reducible refine iC ?_)))
  refine ⟨_, _, is_S (s := s) (i := at_) (k := k) (e := 0) 92 (up1_le b) (up_boxS (by simp only [go_sem, fN, seval, eT, iR, hi_ne, lo_ne, hb, sb])), ?_⟩
  by_cases h0 : at_ < s.size ∧ byteAt s at_ = 92
  · rw [lrT, if_pos h0] at hq
    rw [decide_eq_true h0]
    obtain ⟨h0, h0'⟩ := h0
    have hca : ((at_ + 1 : Nat) : Int) = (at_ : Int) + 1 := by omega
    have hml : (ns.map encS).length = ns.length := by simp
    have hmap : ∀ nm : ByteArray, (ns ++ [nm]).map encS = ns.map encS ++ [[.str nm]] := fun nm => by simp [encS]
    repeat' (first | (with_reducible first | refine W ?_ | refine Wz0 ?_) | ((with_reducible first | refine Wo (fun K hK => ?_) | refine Wp ?_ | refine Wq ?_ | refine Wr ?_); (try simp only [go_sem, fN, seval, eT, iR, hi_ne, lo_ne, hb, sb, n4, n6, dT, dF, nL]); (repeat with_reducible refine Ai ?_); (try (refine hK _ ?_; clear hK K)); (try with_reducible refine iC ?_)))
    refine ⟨_, _, knot_S (s := s) (i := at_) (k := k) (up1_le b) (by omega) (up_boxS (by simp only [go_sem, fN, seval, eT, iR, hi_ne, lo_ne, hb, sb])), ?_⟩
    by_cases hk2 : 200 < k + 1
    · rw [if_pos hk2] at hq ⊢
      subst hq
      have h3 : ¬ (3 : Int) = 0 := by decide
      repeat' (first | (with_reducible first | refine W ?_ | refine Wz0 ?_) | ((with_reducible first | refine Wo (fun K hK => ?_) | refine Wp ?_ | refine Wq ?_ | refine Wr ?_); (try simp only [go_sem, fN, seval, eT, iR, hi_ne, lo_ne, hb, n4, n6, dT, dF, nL]); (repeat with_reducible refine Ai ?_); (try (refine hK _ ?_; clear hK K)); (try with_reducible refine iC ?_)))
      refine ⟨_, _, sname_skip (s := s) (i := at_ + 1) (k := k + 1) (e := 3) (up1_le b) h3 (up_boxS (by simp only [go_sem, fN, seval, eT, iR, hi_ne, lo_ne, hb, boxS, hca])), ?_⟩
      repeat' (first | (with_reducible first | refine W ?_ | refine Wz0 ?_) | ((with_reducible first | refine Wo (fun K hK => ?_) | refine Wp ?_ | refine Wq ?_ | refine Wr ?_); (try simp only [go_sem, fN, seval, eT, iR, hi_ne, lo_ne, hb, n4, n6, dT, dF, nL]); (repeat with_reducible refine Ai ?_); (try (refine hK _ ?_; clear hK K)); (try with_reducible refine iC ?_)))
      refine ⟨_, _, want_skip (s := s) (i := at_ + 1) (k := k + 1) (e := 3) 46 (up1_le b) h3 (up_boxS (by simp only [go_sem, fN, seval, eT, iR, hi_ne, lo_ne, hb, boxS, hca])), ?_⟩
      repeat' (first | (with_reducible first | refine W ?_ | refine Wz0 ?_) | ((with_reducible first | refine Wo (fun K hK => ?_) | refine Wp ?_ | refine Wq ?_ | refine Wr ?_); (try simp only [go_sem, fN, seval, eT, iR, hi_ne, lo_ne, hb, n4, n6, n31, n34, hml, dT, dF, nL]); (repeat with_reducible refine Ai ?_); (try (refine hK _ ?_; clear hK K)); (try with_reducible refine iC ?_)))
      have hcb := hca
      have hcall := fun S' (h : S' b = some (boxS s (at_ + 1) (k + 1) 3)) => rterm_skip (s := s) (i := at_ + 1) (k := k + 1) (e := 3) (ns := ns ++ [⟨#[]⟩]) (S := S') hb h3 h
      have hT3 : Clean (updE S b (some (boxS s (at_ + 1) (k + 1) 3))) := clean_upd hS hb rfl
      refine callX_term (e := 9) (ns := ns ++ [⟨#[]⟩]) hb (by simp only [go_sem, fN, seval, eT, iR, hmap]) (by simp) hT3 (fun j hj => ?_) (hcall _ (by simp only [go_sem, fN, seval, eT, iR])) ?_
      · by_cases e : j = b
        · subst e
          simp only [go_sem, fN, seval, eT, iR, hi_ne, lo_ne, hb, boxS, hca, hcb]
        · simp only [go_sem, fN, seval, eT, iR, hi_ne, lo_ne, hb, hj, e]
      have hbl : (b < 1000) = False := eq_false (by omega)
      repeat' (first | (with_reducible first | refine W ?_ | refine Wz0 ?_) | refine Cg _ (lFun_a Lm.nil) ?_ | ((with_reducible first | refine Wo (fun K hK => ?_) | refine Wp ?_ | refine Wq ?_ | refine Wr ?_); (try simp only [go_sem, fN, seval, eT, iR, hi_ne, lo_ne, hb, joinS, hbl, n4, dT, dF, nL]); (repeat with_reducible refine Ai ?_); (try (refine hK _ ?_; clear hK K)); (try with_reducible refine iC ?_)))
      refine rend hS hb ?_ ?_ ?_ fun jj h1 h2 => ?_
      · simp only [go_sem, fN, seval, eT, iR]
      · simp only [go_sem, fN, seval, eT, iR, hi_ne, lo_ne, hb]
      · simp only [go_sem, fN, seval, eT, iR, hi_ne, lo_ne, hb, joinS, hbl]
      · have h3 : (jj < 1000) = False := eq_false (by omega)
        simp only [go_sem, fN, seval, eT, iR, hi_ne, lo_ne, h1, h2, joinS, h3]
    rw [if_neg hk2] at hq ⊢
    obtain ⟨m1, m2, m3, m4⟩ := nmErr_ok (s := s) (i := at_ + 1) (by omega)
    have hk3 : ((k + 1 : Nat) : Int) = (k : Int) + 1 := by omega
    repeat' (first | (with_reducible first | refine W ?_ | refine Wz0 ?_) | ((with_reducible first | refine Wo (fun K hK => ?_) | refine Wp ?_ | refine Wq ?_ | refine Wr ?_); (try simp only [go_sem, fN, seval, eT, iR, hi_ne, lo_ne, hb, n4, n6, dT, dF, nL]); (repeat with_reducible refine Ai ?_); (try (refine hK _ ?_; clear hK K)); (try with_reducible refine iC ?_)))
    refine ⟨_, _, sname_S (s := s) (i := at_ + 1) (k := k + 1) hs (by omega) (up1_le b) (up_boxS (by simp only [go_sem, fN, seval, eT, iR, hi_ne, lo_ne, hb, boxS, hca])), ?_⟩
    obtain ⟨nm, hnm⟩ : ∃ nm, nmAt s (at_ + 1) = nm := ⟨_, rfl⟩
    rw [hnm] at hq ⊢
    generalize lendA s (at_ + 1) = j1 at *
    have hcb : ((j1 + 1 : Nat) : Int) = (j1 : Int) + 1 := by omega
    by_cases he : nmErr s (at_ + 1) = 0
    case neg =>
      rw [if_neg he] at hq
      subst hq
      repeat' (first | (with_reducible first | refine W ?_ | refine Wz0 ?_) | ((with_reducible first | refine Wo (fun K hK => ?_) | refine Wp ?_ | refine Wq ?_ | refine Wr ?_); (try simp only [go_sem, fN, seval, eT, iR, hi_ne, lo_ne, hb, n4, n6, dT, dF, nL]); (repeat with_reducible refine Ai ?_); (try (refine hK _ ?_; clear hK K)); (try with_reducible refine iC ?_)))
      refine ⟨_, _, want_skip (s := s) (i := j1) (k := k + 1) (e := nmErr s (at_ + 1)) 46 (up1_le b) he (up_boxS (by simp only [go_sem, fN, seval, eT, iR, hi_ne, lo_ne, hb, boxS])), ?_⟩
      repeat' (first | (with_reducible first | refine W ?_ | refine Wz0 ?_) | ((with_reducible first | refine Wo (fun K hK => ?_) | refine Wp ?_ | refine Wq ?_ | refine Wr ?_); (try simp only [go_sem, fN, seval, eT, iR, hi_ne, lo_ne, hb, n4, n6, n31, n34, hml, dT, dF, nL]); (repeat with_reducible refine Ai ?_); (try (refine hK _ ?_; clear hK K)); (try with_reducible refine iC ?_)))
      have hcall := fun S' (h : S' b = some (boxS s j1 (k + 1) (nmErr s (at_ + 1)))) => rterm_skip (s := s) (i := j1) (k := k + 1) (e := nmErr s (at_ + 1)) (ns := ns ++ [nm]) (S := S') hb he h
      have hT3 : Clean (updE S b (some (boxS s (j1) (k + 1) (nmErr s (at_ + 1))))) := clean_upd hS hb rfl
      refine callX_term (e := 9) (ns := ns ++ [nm]) hb (by simp only [go_sem, fN, seval, eT, iR, hmap]) (by simp) hT3 (fun j hj => ?_) (hcall _ (by simp only [go_sem, fN, seval, eT, iR])) ?_
      · by_cases e : j = b
        · subst e
          simp only [go_sem, fN, seval, eT, iR, hi_ne, lo_ne, hb, boxS, hca, hcb]
        · simp only [go_sem, fN, seval, eT, iR, hi_ne, lo_ne, hb, hj, e]
      have hbl : (b < 1000) = False := eq_false (by omega)
      repeat' (first | (with_reducible first | refine W ?_ | refine Wz0 ?_) | refine Cg _ (lFun_a Lm.nil) ?_ | ((with_reducible first | refine Wo (fun K hK => ?_) | refine Wp ?_ | refine Wq ?_ | refine Wr ?_); (try simp only [go_sem, fN, seval, eT, iR, hi_ne, lo_ne, hb, joinS, hbl, n4, dT, dF, nL]); (repeat with_reducible refine Ai ?_); (try (refine hK _ ?_; clear hK K)); (try with_reducible refine iC ?_)))
      refine rend hS hb ?_ ?_ ?_ fun jj h1 h2 => ?_
      · simp only [go_sem, fN, seval, eT, iR]
      · simp only [go_sem, fN, seval, eT, iR, hi_ne, lo_ne, hb]
      · simp only [go_sem, fN, seval, eT, iR, hi_ne, lo_ne, hb, joinS, hbl]
      · have h3 : (jj < 1000) = False := eq_false (by omega)
        simp only [go_sem, fN, seval, eT, iR, hi_ne, lo_ne, h1, h2, joinS, h3]
    rw [if_pos he] at hq
    rw [he]
    repeat' (first | (with_reducible first | refine W ?_ | refine Wz0 ?_) | ((with_reducible first | refine Wo (fun K hK => ?_) | refine Wp ?_ | refine Wq ?_ | refine Wr ?_); (try simp only [go_sem, fN, seval, eT, iR, hi_ne, lo_ne, hb, n4, n6, dT, dF, nL]); (repeat with_reducible refine Ai ?_); (try (refine hK _ ?_; clear hK K)); (try with_reducible refine iC ?_)))
    refine ⟨_, _, want_S (s := s) (i := j1) (k := k + 1) 46 hs m3 (up1_le b) (up_boxS (by simp only [go_sem, fN, seval, eT, iR, hi_ne, lo_ne, hb, boxS])), ?_⟩
    by_cases hw : wantE s 46 j1 = 0
    case neg =>
      rw [if_neg hw] at hq
      subst hq
      repeat' (first | (with_reducible first | refine W ?_ | refine Wz0 ?_) | ((with_reducible first | refine Wo (fun K hK => ?_) | refine Wp ?_ | refine Wq ?_ | refine Wr ?_); (try simp only [go_sem, fN, seval, eT, iR, hi_ne, lo_ne, hb, n4, n6, n31, n34, hml, dT, dF, nL]); (repeat with_reducible refine Ai ?_); (try (refine hK _ ?_; clear hK K)); (try with_reducible refine iC ?_)))
      have hcall := fun S' (h : S' b = some (boxS s (j1 + 1) (k + 1) (wantE s 46 j1))) => rterm_skip (s := s) (i := j1 + 1) (k := k + 1) (e := wantE s 46 j1) (ns := ns ++ [nm]) (S := S') hb hw h
      have hT3 : Clean (updE S b (some (boxS s (j1 + 1) (k + 1) (wantE s 46 j1)))) := clean_upd hS hb rfl
      refine callX_term (e := 9) (ns := ns ++ [nm]) hb (by simp only [go_sem, fN, seval, eT, iR, hmap]) (by simp) hT3 (fun j hj => ?_) (hcall _ (by simp only [go_sem, fN, seval, eT, iR])) ?_
      · by_cases e : j = b
        · subst e
          simp only [go_sem, fN, seval, eT, iR, hi_ne, lo_ne, hb, boxS, hca, hcb]
        · simp only [go_sem, fN, seval, eT, iR, hi_ne, lo_ne, hb, hj, e]
      have hbl : (b < 1000) = False := eq_false (by omega)
      repeat' (first | (with_reducible first | refine W ?_ | refine Wz0 ?_) | refine Cg _ (lFun_a Lm.nil) ?_ | ((with_reducible first | refine Wo (fun K hK => ?_) | refine Wp ?_ | refine Wq ?_ | refine Wr ?_); (try simp only [go_sem, fN, seval, eT, iR, hi_ne, lo_ne, hb, joinS, hbl, n4, dT, dF, nL]); (repeat with_reducible refine Ai ?_); (try (refine hK _ ?_; clear hK K)); (try with_reducible refine iC ?_)))
      refine rend hS hb ?_ ?_ ?_ fun jj h1 h2 => ?_
      · simp only [go_sem, fN, seval, eT, iR]
      · simp only [go_sem, fN, seval, eT, iR, hi_ne, lo_ne, hb]
      · simp only [go_sem, fN, seval, eT, iR, hi_ne, lo_ne, hb, joinS, hbl]
      · have h3 : (jj < 1000) = False := eq_false (by omega)
        simp only [go_sem, fN, seval, eT, iR, hi_ne, lo_ne, h1, h2, joinS, h3]
    rw [if_pos hw] at hq
    have w1 := ((wantE_ok m3).2 hw).1
    rw [hw]
    repeat' (first | (with_reducible first | refine W ?_ | refine Wz0 ?_) | ((with_reducible first | refine Wo (fun K hK => ?_) | refine Wp ?_ | refine Wq ?_ | refine Wr ?_); (try simp only [go_sem, fN, seval, eT, iR, hi_ne, lo_ne, hb, n4, n6, n31, n34, hml, dT, dF, nL]); (repeat with_reducible refine Ai ?_); (try (refine hK _ ?_; clear hK K)); (try with_reducible refine iC ?_)))
    have hcall := fun S' => hT (ns ++ [nm]) (j1 + 1) (k + 1) b S' (by omega) (by omega) (by omega) (by simp; omega) hb
    subst hq
    generalize lrT s f (ns ++ [nm]) (j1 + 1) (k + 1) = p at *
    have hT3 : Clean (updE S b (some (boxS s (j1 + 1) (k + 1) 0))) := clean_upd hS hb rfl
    refine callX_term (e := 9) (ns := ns ++ [nm]) hb (by simp only [go_sem, fN, seval, eT, iR, hmap]) (by simp) hT3 (fun j hj => ?_) (hcall _ (by simp only [go_sem, fN, seval, eT, iR])) ?_
    · by_cases e : j = b
      · subst e
        simp only [go_sem, fN, seval, eT, iR, hi_ne, lo_ne, hb, boxS, hca, hcb]
      · simp only [go_sem, fN, seval, eT, iR, hi_ne, lo_ne, hb, hj, e]
    have hbl : (b < 1000) = False := eq_false (by omega)
    repeat' (first | (with_reducible first | refine W ?_ | refine Wz0 ?_) | refine Cg _ (lFun_a p.t) ?_ | ((with_reducible first | refine Wo (fun K hK => ?_) | refine Wp ?_ | refine Wq ?_ | refine Wr ?_); (try simp only [go_sem, fN, seval, eT, iR, hi_ne, lo_ne, hb, joinS, hbl, n4, dT, dF, nL]); (repeat with_reducible refine Ai ?_); (try (refine hK _ ?_; clear hK K)); (try with_reducible refine iC ?_)))
    refine rend hS hb ?_ ?_ ?_ fun jj h1 h2 => ?_
    · simp only [go_sem, fN, seval, eT, iR]
    · simp only [go_sem, fN, seval, eT, iR, hi_ne, lo_ne, hb]
    · simp only [go_sem, fN, seval, eT, iR, hi_ne, lo_ne, hb, joinS, hbl]
    · have h3 : (jj < 1000) = False := eq_false (by omega)
      simp only [go_sem, fN, seval, eT, iR, hi_ne, lo_ne, h1, h2, joinS, h3]
  rw [lrT, if_neg h0] at hq
  rw [decide_eq_false h0]
  have hpo := lrP_ok s f ns at_ k hat hk (by omega)
  have hc := hP f (Nat.le_refl _) ns at_ k (up1 b)
  clear hT
  repeat' (first | (with_reducible first | refine W ?_ | refine Wz0 ?_) | ((with_reducible first | refine Wo (fun K hK => ?_) | refine Wp ?_ | refine Wq ?_ | refine Wr ?_); (try simp only [go_sem, fN, seval, eT, iR, hi_ne, lo_ne, hb, sb, n4, n6, dT, dF, nL]); (repeat with_reducible refine Ai ?_); (try (refine hK _ ?_; clear hK K)); (try with_reducible refine iC ?_)))
  refine ⟨_, _, hc _ hat hk (by omega) (by omega) (up1_le b) (up_boxS (by simp only [go_sem, fN, seval, eT, iR, hi_ne, lo_ne, hb, sb])), ?_⟩
  clear hc
  generalize lrP s f ns at_ k = p0 at *
  obtain ⟨o1, o2, o3, o4, o5, o6⟩ := hpo
  repeat' (first | (with_reducible first | refine W ?_ | refine Wz0 ?_) | ((with_reducible first | refine Wo (fun K hK => ?_) | refine Wp ?_ | refine Wq ?_ | refine Wr ?_); (try simp only [go_sem, fN, seval, eT, iR, hi_ne, lo_ne, hb, sb, n4, n6, dT, dF, nL]); (repeat with_reducible refine Ai ?_); (try (refine hK _ ?_; clear hK K)); (try with_reducible refine iC ?_)))
  refine IWP.loop (fun m x => ∃ (p : LRd) (g : Nat), lrL s g ns p = q ∧ m = (if p.e = 0 then s.size - p.i + 1 else 0) ∧ (at_ ≤ p.i ∧ p.i ≤ s.size + 1) ∧ p.k ≤ 201 ∧ 0 < g ∧ (p.e = 0 → p.i ≤ s.size ∧ p.k ≤ 200 ∧ 3 * (s.size - p.i) < g ∧ g ≤ f) ∧ x.env 0 = .one (.ptr b 1 0 0) ∧ x.env 1 = aStrs ns ∧ x.env 4 = .one (.ptr 4 1 0 0) ∧ x.env 6 = .one (.ptr 6 1 0 0) ∧ x.S 4 = some boxT0l ∧ x.S 6 = some (boxTl p.t) ∧ x.S b = some (boxS s p.i p.k p.e) ∧ ∀ j, 1000 ≤ j → j ≠ b → x.S j = S j) (if p0.e = 0 then s.size - p0.i + 1 else 0) ⟨p0, f, hq, rfl, ⟨o1, o2⟩, o4, by omega, fun he => ⟨(o5 he).1, (o5 he).2.2.2, by omega, Nat.le_refl _⟩, ?_⟩ ?_
  · simp only [go_sem, fN, seval, eT, iR, hi_ne, lo_ne, hb, AS.startS]
    intro j j1 j2
    simp only [go_sem, fN, seval, eT, iR, hi_ne, lo_ne, j1, j2]
  clear o1 o2 o3 o4 o5 o6 hq
  clear p0
  rintro m ⟨env, S1⟩ ⟨p, g, hq, hm, pi, pk, hg, hok, v0, v1, v4, v6, t4, t6, tb, hrest⟩
  simp only at v0 v1 v4 v6 t4 t6 tb hrest
  by_cases he : p.e = 0
  case neg =>
    have hq' : p = q := by rw [← hq]; exact (lrL_bad hg fun h => he h.1).symm
    subst hq'
    repeat' (first | (with_reducible first | refine W ?_ | refine Wz0 ?_) | ((with_reducible first | refine Wo (fun K hK => ?_) | refine Wp ?_ | refine Wq ?_ | refine Wr ?_); (try simp only [go_sem, fN, seval, eT, iR, v0, v1, v4, v6, t4, t6, tb, he, hi_ne, lo_ne, hb, dT, dF, nL]); (repeat with_reducible refine Ai ?_); (try (refine hK _ ?_; clear hK K)); (try with_reducible refine iC ?_)))
    refine rend hS hb ?_ ?_ ?_ fun jj h1 h2 => ?_
    · simp only [go_sem, fN, seval, eT, iR, v4]
    · simp only [go_sem, fN, seval, eT, iR, hi_ne, lo_ne, hb]
      try rfl
    · simp only [go_sem, fN, seval, eT, iR, hi_ne, lo_ne, hb, tb]
    · simp only [go_sem, fN, seval, eT, iR, hi_ne, lo_ne, h1, h2]
      exact hrest jj h1 h2
  obtain ⟨a1, a2, a3, a4⟩ := hok he
  rw [if_pos he] at hm
  rw [he] at tb
  repeat' (first | (with_reducible first | refine W ?_ | refine Wz0 ?_) | ((with_reducible first | refine Wo (fun K hK => ?_) | refine Wp ?_ | refine Wq ?_ | refine Wr ?_); (try simp only [go_sem, fN, seval, eT, iR, v0, v1, v4, v6, t4, t6, tb, hi_ne, lo_ne, hb, dT, dF, nL]); (repeat with_reducible refine Ai ?_); (try (refine hK _ ?_; clear hK K)); (try with_reducible refine iC ?_)))
  refine ⟨_, _, is_S (s := s) (i := p.i) (k := p.k) (e := 0) 32 (up1_le b) (up_boxS (by simp only [go_sem, fN, seval, eT, iR, hi_ne, lo_ne, hb, tb])), ?_⟩
  by_cases h1 : p.i < s.size ∧ byteAt s p.i = 32
  case neg =>
    rw [decide_eq_false h1]
    have hq' : p = q := by rw [← hq]; exact (lrL_bad hg fun h => h1 h.2).symm
    subst hq'
    repeat' (first | (with_reducible first | refine W ?_ | refine Wz0 ?_) | ((with_reducible first | refine Wo (fun K hK => ?_) | refine Wp ?_ | refine Wq ?_ | refine Wr ?_); (try simp only [go_sem, fN, seval, eT, iR, v0, v1, v4, v6, t4, t6, tb, he, hi_ne, lo_ne, hb, dT, dF, nL]); (repeat with_reducible refine Ai ?_); (try (refine hK _ ?_; clear hK K)); (try with_reducible refine iC ?_)))
    refine rend hS hb ?_ ?_ ?_ fun jj h1 h2 => ?_
    · simp only [go_sem, fN, seval, eT, iR, v4]
    · simp only [go_sem, fN, seval, eT, iR, hi_ne, lo_ne, hb]
      try rfl
    · simp only [go_sem, fN, seval, eT, iR, hi_ne, lo_ne, hb, tb]
    · simp only [go_sem, fN, seval, eT, iR, hi_ne, lo_ne, h1, h2]
      exact hrest jj h1 h2
  rw [decide_eq_true h1]
  obtain ⟨g, rfl⟩ : ∃ g', g = g' + 1 := ⟨g - 1, by omega⟩
  rw [lrL, if_pos ⟨he, h1⟩] at hq
  obtain ⟨h1, h1'⟩ := h1
  have hca : ((p.i + 1 : Nat) : Int) = (p.i : Int) + 1 := by omega
  repeat' (first | (with_reducible first | refine W ?_ | refine Wz0 ?_) | ((with_reducible first | refine Wo (fun K hK => ?_) | refine Wp ?_ | refine Wq ?_ | refine Wr ?_); (try simp only [go_sem, fN, seval, eT, iR, v0, v1, v4, v6, t4, t6, tb, hi_ne, lo_ne, hb, dT, dF, nL]); (repeat with_reducible refine Ai ?_); (try (refine hK _ ?_; clear hK K)); (try with_reducible refine iC ?_)))
  refine ⟨_, _, knot_S (s := s) (i := p.i + 1) (k := p.k) (up1_le b) (by omega) (up_boxS (by simp only [go_sem, fN, seval, eT, iR, hi_ne, lo_ne, hb, boxS, hca])), ?_⟩
  by_cases hk2 : 200 < p.k + 1
  · rw [if_pos hk2] at hq ⊢
    have h3 : ¬ (3 : Int) = 0 := by decide
    repeat' (first | (with_reducible first | refine W ?_ | refine Wz0 ?_) | ((with_reducible first | refine Wo (fun K hK => ?_) | refine Wp ?_ | refine Wq ?_ | refine Wr ?_); (try simp only [go_sem, fN, seval, eT, iR, v0, v1, v4, v6, t4, t6, hi_ne, lo_ne, hb, dT, dF, nL]); (repeat with_reducible refine Ai ?_); (try (refine hK _ ?_; clear hK K)); (try with_reducible refine iC ?_)))
    refine ⟨_, _, rpiece_skip (s := s) (i := p.i + 1) (k := p.k + 1) (e := 3) (ns := ns) (up1_le b) h3 (up_boxS (by simp only [go_sem, fN, seval, eT, iR, hi_ne, lo_ne, hb, boxS, hca])), ?_⟩
    repeat' (first | (with_reducible first | refine W ?_ | refine Wz0 ?_) | refine Cg _ (lApp_a p.t Lm.nil) ?_ | ((with_reducible first | refine Wo (fun K hK => ?_) | refine Wp ?_ | refine Wq ?_ | refine Wr ?_); (try simp only [go_sem, fN, seval, eT, iR, v0, v1, v4, v6, t4, t6, hi_ne, lo_ne, hb, List.forall_mem_singleton, dT, dF, nL]); (repeat with_reducible refine Ai ?_); (try (refine hK _ ?_; clear hK K)); (try with_reducible refine iC ?_)))
    refine then_normal ⟨0, by omega, ⟨.a p.t .nil, p.i + 1, p.k + 1, 3⟩, 1, ?_, rfl, ⟨by show at_ ≤ p.i + 1; omega, by show p.i + 1 ≤ _; omega⟩, by show p.k + 1 ≤ _; omega, by decide, fun h => absurd h h3, ?_⟩
    · rw [← hq]
      exact lrL_bad (by decide) fun h => h3 h.1
    · simp only [go_sem, fN, seval, eT, iR, v0, v1, v4, v6, t4, t6, hi_ne, lo_ne, hb, boxS, hca]
      intro j j1 j2
      simp only [go_sem, fN, seval, eT, iR, hi_ne, lo_ne, j1, j2]
      exact hrest j j1 j2
  rw [if_neg hk2] at hq ⊢
  have hpo := lrP_ok s g ns (p.i + 1) (p.k + 1) (by omega) (by omega) (by omega)
  have hc := hP g (by omega) ns (p.i + 1) (p.k + 1) (up1 b)
  generalize lrP s g ns (p.i + 1) (p.k + 1) = p1 at *
  obtain ⟨o1, o2, o3, o4, o5, o6⟩ := hpo
  repeat' (first | (with_reducible first | refine W ?_ | refine Wz0 ?_) | ((with_reducible first | refine Wo (fun K hK => ?_) | refine Wp ?_ | refine Wq ?_ | refine Wr ?_); (try simp only [go_sem, fN, seval, eT, iR, v0, v1, v4, v6, t4, t6, hi_ne, lo_ne, hb, dT, dF, nL]); (repeat with_reducible refine Ai ?_); (try (refine hK _ ?_; clear hK K)); (try with_reducible refine iC ?_)))
  refine ⟨_, _, hc _ (by omega) (by omega) (by omega) (by omega) (up1_le b) (up_boxS (by simp only [go_sem, fN, seval, eT, iR, hi_ne, lo_ne, hb, boxS, hca])), ?_⟩
  repeat' (first | (with_reducible first | refine W ?_ | refine Wz0 ?_) | refine Cg _ (lApp_a p.t p1.t) ?_ | ((with_reducible first | refine Wo (fun K hK => ?_) | refine Wp ?_ | refine Wq ?_ | refine Wr ?_); (try simp only [go_sem, fN, seval, eT, iR, v0, v1, v4, v6, t4, t6, hi_ne, lo_ne, hb, List.forall_mem_singleton, dT, dF, nL]); (repeat with_reducible refine Ai ?_); (try (refine hK _ ?_; clear hK K)); (try with_reducible refine iC ?_)))
  refine then_normal ⟨if p1.e = 0 then s.size - p1.i + 1 else 0, ?_, ⟨.a p.t p1.t, p1.i, p1.k, p1.e⟩, g, hq, rfl, ⟨by show at_ ≤ p1.i; omega, o2⟩, o4, by omega, fun h => ⟨(o5 h).1, (o5 h).2.2.2, by show 3 * (s.size - p1.i) < g; omega, by omega⟩, ?_⟩
  · split
    · rename_i h
      have := o5 h
      omega
    · omega
  · simp only [go_sem, fN, seval, eT, iR, v0, v1, v4, v6, t4, t6, hi_ne, lo_ne, hb]
    intro j j1 j2
    simp only [go_sem, fN, seval, eT, iR, hi_ne, lo_ne, j1, j2]
    exact hrest j j1 j2
theorem rread_S {s : ByteArray} (hs : s.size ≤ 100000) : ∀ f, RT s f ∧ RP s f := by
  intro f
  induction f using Nat.strongRecOn with
  | _ f ih =>
  cases f with
  | zero => exact ⟨fun _ _ _ _ _ _ _ h => absurd h (Nat.not_lt_zero _), fun _ _ _ _ _ _ _ h => absurd h (Nat.not_lt_zero _)⟩
  | succ f =>
    have hT := (ih f (Nat.lt_succ_self f)).1
    exact ⟨rterm_S hs hT fun g hg => (ih g (by omega)).2, rpiece_S hs hT⟩

set_option maxRecDepth 100000
def ir_lambda_Names : IR :=
  (.seq (.ops [.i 2 (.mov (.n 0))]) (.seq (.seq (.ops [.m 5 0, .i 6 (.len false (.t 5)), .i 7 (.bin .gtr (.t 6) (.n 40))]) (.cond (.t 7) (.seq (.ops [.i 2 (.mov (.n 3))]) .ret) .skip)) (.seq (.seq (.ops [.m 8 0, .i 9 (.len false (.t 8)), .i 10 (.mov (.n 0))]) (.block 0 (.loop (.seq (.ops [.i 11 (.bin .lss (.t 10) (.t 9))]) (.seq (.cond (.t 11) .skip (.exit 0)) (.seq (.block 1 (.seq (.ops [.m 12 10, .i 13 (.indexAddr 1 (.t 8) (.t 10)), .l 14 13, .m 3 12, .m 4 14]) (.seq (.seq (.ops [.m 15 4, .i 16 (.call 14 [.t 15]), .i 17 (.un .not (.t 16)), .m 18 17, .mk (some 19) (some (18, false)) (.mov (.t 4)) .no, .mk (some 20) (some (18, false)) (.indexStr (.t 19) (.n 0)) .no, .mk (some 21) (some (18, false)) (.bin .eql (.t 20) (.c (.one (.st (.int .u8 120))))) .no, .i 22 (.pick (.t 18) (.c (.one (.st (.bool true)))) (.t 21)), .m 23 22, .mk (some 24) (some (23, false)) (.mov (.t 4)) .no, .mk (some 25) (some (23, false)) (.indexStr (.t 24) (.n 0)) .no, .mk (some 26) (some (23, false)) (.bin .eql (.t 25) (.c (.one (.st (.int .u8 99))))) .no, .i 27 (.pick (.t 23) (.c (.one (.st (.bool true)))) (.t 26))]) (.cond (.t 27) (.seq (.ops [.i 2 (.mov (.n 1))]) .ret) .skip)) (.seq (.ops [.m 28 0, .m 29 3, .i 30 (.sliceL 1 (.t 28) none (some (.t 29))), .m 31 4, .i 32 (.call 15 [.t 30, .t 31])]) (.cond (.t 32) (.seq (.ops [.i 2 (.mov (.n 4))]) .ret) .skip))))) (.ops [.i 33 (.bin .add (.t 10) (.n 1)), .m 10 33]))))))) (.seq (.ops [.i 2 (.mov (.n 0))]) .ret))))
theorem ok_lambda_Names : OkF Tryd.prog 7 34 [] ir_lambda_Names [.t 2] := .of Tryd.func7 rfl rfl (by kernel_rfl) rfl
def ir_R_FreeMay : IR :=
  (.seq (.ops [.i 2 (.mov (.n 0))]) (.seq (.seq (.ops [.m 4 0, .i 5 (.len false (.t 4)), .i 6 (.bin .gtr (.t 5) (.n 40))]) (.cond (.t 6) (.seq (.ops [.i 2 (.mov (.n 3))]) .ret) .skip)) (.seq (.seq (.ops [.i 3 (.mov (.n 0))]) (.block 0 (.loop (.seq (.seq (.ops [.m 7 3, .m 8 0, .i 9 (.len false (.t 8)), .i 10 (.bin .lss (.t 7) (.t 9))]) (.cond (.t 10) .skip (.exit 0))) (.seq (.block 1 (.seq (.seq (.ops [.m 13 0, .m 14 3, .i 15 (.indexAddr 1 (.t 13) (.t 14)), .l 16 15, .i 17 (.call 23 [.t 16]), .i 18 (.un .not (.t 17)), .m 19 18, .mk (some 20) (some (19, false)) (.mov (.t 0)) .no, .mk (some 21) (some (19, false)) (.mov (.t 3)) .no, .mk (some 22) (some (19, false)) (.indexAddr 1 (.t 20) (.t 21)) .no, .mk (some 23) (some (19, false)) (.load false 1 (.t 22)) .no, .mk (some 24) (some (19, false)) (.indexStr (.t 23) (.n 0)) .no, .mk (some 25) (some (19, false)) (.bin .eql (.t 24) (.c (.one (.st (.int .u8 120))))) .no, .i 26 (.pick (.t 19) (.c (.one (.st (.bool true)))) (.t 25)), .m 27 26, .mk (some 28) (some (27, false)) (.mov (.t 0)) .no, .mk (some 29) (some (27, false)) (.mov (.t 3)) .no, .mk (some 30) (some (27, false)) (.indexAddr 1 (.t 28) (.t 29)) .no, .mk (some 31) (some (27, false)) (.load false 1 (.t 30)) .no, .mk (some 32) (some (27, false)) (.indexStr (.t 31) (.n 0)) .no, .mk (some 33) (some (27, false)) (.bin .eql (.t 32) (.c (.one (.st (.int .u8 99))))) .no, .i 34 (.pick (.t 27) (.c (.one (.st (.bool true)))) (.t 33))]) (.cond (.t 34) (.seq (.ops [.i 2 (.mov (.n 1))]) .ret) .skip)) (.seq (.ops [.m 35 0, .m 36 3, .i 37 (.indexAddr 1 (.t 35) (.t 36)), .l 38 37, .m 39 0, .m 40 3, .i 41 (.sliceL 1 (.t 39) none (some (.t 40))), .i 42 (.call 24 [.t 38, .t 41])]) (.cond (.t 42) (.seq (.ops [.i 2 (.mov (.n 4))]) .ret) .skip)))) (.ops [.m 11 3, .i 12 (.bin .add (.t 11) (.n 1)), .m 3 12])))))) (.seq (.ops [.i 2 (.mov (.n 0))]) .ret))))
theorem ok_R_FreeMay : OkF Tryd.prog 11 43 [] ir_R_FreeMay [.t 2] := .of Tryd.func11 rfl rfl (by kernel_rfl) rfl

def freeL : List ByteArray → List ByteArray → Int
  | _, [] => 0
  | p, n :: r => if nameOk n = true ∧ byteAt n 0 ≠ 120 ∧ byteAt n 0 ≠ 99 then (if isIn n p = true then 4 else freeL (p ++ [n]) r) else 1
def freeMay (l : List ByteArray) : Int := if 40 < l.length then 3 else freeL [] l
theorem freeL_at {l : List ByteArray} {k : Nat} {n : ByteArray} (h : l[k]? = some n) : freeL (l.take k) (l.drop k) = if nameOk n = true ∧ byteAt n 0 ≠ 120 ∧ byteAt n 0 ≠ 99 then (if isIn n (l.take k) = true then 4 else freeL (l.take (k + 1)) (l.drop (k + 1))) else 1 := by
  obtain ⟨hk, rfl⟩ := List.getElem?_eq_some_iff.1 h
  rw [List.drop_eq_getElem_cons hk, freeL, take_snoc h]
theorem freeL_range : ∀ (p l : List ByteArray), 0 ≤ freeL p l ∧ freeL p l ≤ 15
  | _, [] => by rw [freeL]; decide
  | p, n :: r => by
    rw [freeL]
    split
    · split
      · decide
      · exact freeL_range _ r
    · decide
theorem freeMay_range (l : List ByteArray) : 0 ≤ freeMay l ∧ freeMay l ≤ 15 := by
  unfold freeMay
  split
  · decide
  · exact freeL_range _ _
theorem names_a (l : List ByteArray) : ACalls Tryd.prog 7 [aStrs l] (aInt (freeMay l)) := by
  refine ok_lambda_Names.ac fun C hC => ?_
  unfold ir_lambda_Names
  unfold freeMay
  by_cases h40 : (40 : Int) < l.length
  · rw [if_pos (by omega)]
    repeat' (first | (with_reducible first | refine W ?_ | refine Wz0 ?_) | ((with_reducible first | refine Wo (fun K hK => ?_) | refine Wp ?_ | refine Wq ?_ | refine Wr ?_); (try simp only [go_sem, fN, seval, eT, iR, h40, dT, dF, nL]); (repeat with_reducible refine Ai ?_); (try (refine hK _ ?_; clear hK K)); (try with_reducible refine iC ?_)))
    simp only [go_sem, fN, seval, FinQ, AS.result, resAll, resOne, tupV]
  rw [if_neg (by omega)]
  repeat' (first | (with_reducible first | refine W ?_ | refine Wz0 ?_) | ((with_reducible first | refine Wo (fun K hK => ?_) | refine Wp ?_ | refine Wq ?_ | refine Wr ?_); (try simp only [go_sem, fN, seval, eT, iR, h40, dT, dF, nL]); (repeat with_reducible refine Ai ?_); (try (refine hK _ ?_; clear hK K)); (try with_reducible refine iC ?_)))
  refine IWP.loop (fun n s => ∃ k, k ≤ l.length ∧ n = l.length - k ∧ freeL [] l = freeL (l.take k) (l.drop k) ∧ s.env 0 = aStrs l ∧ s.env 8 = aStrs l ∧ s.env 9 = aInt l.length ∧ s.env 10 = aInt k) l.length ⟨0, Nat.zero_le _, rfl, by simp, rfl, rfl, rfl, rfl⟩ ?_
  rintro n ⟨env, S⟩ ⟨k, hk, rfl, hf, e0, e8, e9, e10⟩
  simp only at e0 e8 e9 e10
  rw [hf]
  by_cases hlt : (k : Int) < l.length
  · obtain ⟨a, ha⟩ := get_lt (show k < l.length by omega)
    have hpre : (l.map encS).take k = (l.take k).map encS := List.map_take.symm
    rw [freeL_at ha]
    by_cases h1 : nameOk a = true
    case neg =>
      rw [if_neg fun h => h1 h.1]
      repeat' (first | (with_reducible first | refine W ?_ | refine Wz0 ?_) | refine Cg _ (name_a a) ?_ | ((with_reducible first | refine Wo (fun K hK => ?_) | refine Wp ?_ | refine Wq ?_ | refine Wr ?_); (try simp only [go_sem, fN, seval, eT, iR, e0, e8, e9, e10, hlt, ha, h1, dT, dF, nL]); (repeat with_reducible refine Ai ?_); (try (refine hK _ ?_; clear hK K)); (try with_reducible refine iC ?_)))
      simp only [go_sem, fN, seval, FinQ, AS.result, resAll, resOne, tupV]
    obtain ⟨z1, _, _⟩ := nameOk_cases h1
    have z0 : 0 < a.size := z1
    by_cases h2 : byteAt a 0 = 120
    · rw [if_neg fun h => h.2.1 h2]
      repeat' (first | (with_reducible first | refine W ?_ | refine Wz0 ?_) | refine Cg _ (name_a a) ?_ | ((with_reducible first | refine Wo (fun K hK => ?_) | refine Wp ?_ | refine Wq ?_ | refine Wr ?_); (try simp only [go_sem, fN, seval, eT, iR, e0, e8, e9, e10, hlt, ha, h1, h2, z0, byteN_eq, dT, dF, nL]); (repeat with_reducible refine Ai ?_); (try (refine hK _ ?_; clear hK K)); (try with_reducible refine iC ?_)))
      simp only [go_sem, fN, seval, FinQ, AS.result, resAll, resOne, tupV]
    by_cases h3 : byteAt a 0 = 99
    · rw [if_neg fun h => h.2.2 h3]
      repeat' (first | (with_reducible first | refine W ?_ | refine Wz0 ?_) | refine Cg _ (name_a a) ?_ | ((with_reducible first | refine Wo (fun K hK => ?_) | refine Wp ?_ | refine Wq ?_ | refine Wr ?_); (try simp only [go_sem, fN, seval, eT, iR, e0, e8, e9, e10, hlt, ha, h1, h2, h3, z0, byteN_eq, dT, dF, nL]); (repeat with_reducible refine Ai ?_); (try (refine hK _ ?_; clear hK K)); (try with_reducible refine iC ?_)))
      simp only [go_sem, fN, seval, FinQ, AS.result, resAll, resOne, tupV]
    rw [if_pos ⟨h1, h2, h3⟩]
    by_cases h4 : isIn a (l.take k) = true
    · rw [if_pos h4]
      repeat' (first | (with_reducible first | refine W ?_ | refine Wz0 ?_) | refine Cg _ (name_a a) ?_ | refine Cg _ (contains_a (l.take k) a) ?_ | ((with_reducible first | refine Wo (fun K hK => ?_) | refine Wp ?_ | refine Wq ?_ | refine Wr ?_); (try simp only [go_sem, fN, seval, eT, iR, e0, e8, e9, e10, hlt, ha, h1, h2, h3, h4, z0, byteN_eq, hpre, dT, dF, nL]); (repeat with_reducible refine Ai ?_); (try (refine hK _ ?_; clear hK K)); (try with_reducible refine iC ?_)))
      simp only [go_sem, fN, seval, FinQ, AS.result, resAll, resOne, tupV]
    · rw [if_neg h4]
      repeat' (first | (with_reducible first | refine W ?_ | refine Wz0 ?_) | refine Cg _ (name_a a) ?_ | refine Cg _ (contains_a (l.take k) a) ?_ | ((with_reducible first | refine Wo (fun K hK => ?_) | refine Wp ?_ | refine Wq ?_ | refine Wr ?_); (try simp only [go_sem, fN, seval, eT, iR, e0, e8, e9, e10, hlt, ha, h1, h2, h3, h4, z0, byteN_eq, hpre, dT, dF, nL]); (repeat with_reducible refine Ai ?_); (try (refine hK _ ?_; clear hK K)); (try with_reducible refine iC ?_)))
      refine then_normal ⟨l.length - (k + 1), by omega, k + 1, by omega, rfl, rfl, ?_⟩
      simp only [go_sem, fN, seval, eT, iR, e0, e8, e9, e10]
      congr 3
  · rw [List.take_of_length_le (by omega), List.drop_eq_nil_of_le (by omega), freeL]
    repeat' (first | (with_reducible first | refine W ?_ | refine Wz0 ?_) | ((with_reducible first | refine Wo (fun K hK => ?_) | refine Wp ?_ | refine Wq ?_ | refine Wr ?_); (try simp only [go_sem, fN, seval, eT, iR, e0, e8, e9, e10, hlt, dT, dF, nL]); (repeat with_reducible refine Ai ?_); (try (refine hK _ ?_; clear hK K)); (try with_reducible refine iC ?_)))
    simp only [go_sem, fN, seval, FinQ, AS.result, resAll, resOne, tupV]
theorem freeMay_a (l : List ByteArray) : ACalls Tryd.prog 11 [aStrs l] (aInt (freeMay l)) := by
  refine ok_R_FreeMay.ac fun C hC => ?_
  unfold ir_R_FreeMay
  unfold freeMay
  by_cases h40 : (40 : Int) < l.length
  · rw [if_pos (by omega)]
    repeat' (first | (with_reducible first | refine W ?_ | refine Wz0 ?_) | ((with_reducible first | refine Wo (fun K hK => ?_) | refine Wp ?_ | refine Wq ?_ | refine Wr ?_); (try simp only [go_sem, fN, seval, eT, iR, h40, dT, dF, nL]); (repeat with_reducible refine Ai ?_); (try (refine hK _ ?_; clear hK K)); (try with_reducible refine iC ?_)))
    simp only [go_sem, fN, seval, FinQ, AS.result, resAll, resOne, tupV]
  rw [if_neg (by omega)]
  repeat' (first | (with_reducible first | refine W ?_ | refine Wz0 ?_) | ((with_reducible first | refine Wo (fun K hK => ?_) | refine Wp ?_ | refine Wq ?_ | refine Wr ?_); (try simp only [go_sem, fN, seval, eT, iR, h40, dT, dF, nL]); (repeat with_reducible refine Ai ?_); (try (refine hK _ ?_; clear hK K)); (try with_reducible refine iC ?_)))
  refine IWP.loop (fun n s => ∃ k, k ≤ l.length ∧ n = l.length - k ∧ freeL [] l = freeL (l.take k) (l.drop k) ∧ s.env 0 = aStrs l ∧ s.env 3 = aInt k) l.length ⟨0, Nat.zero_le _, rfl, by simp, rfl, rfl⟩ ?_
  rintro n ⟨env, S⟩ ⟨k, hk, rfl, hf, e0, e3⟩
  simp only at e0 e3
  rw [hf]
  by_cases hlt : (k : Int) < l.length
  · obtain ⟨a, ha⟩ := get_lt (show k < l.length by omega)
    have hpre : (l.map encS).take k = (l.take k).map encS := List.map_take.symm
    rw [freeL_at ha]
    by_cases h1 : nameOk a = true
    case neg =>
      rw [if_neg fun h => h1 h.1]
      repeat' (first | (with_reducible first | refine W ?_ | refine Wz0 ?_) | refine Cg _ (isName_a a) ?_ | ((with_reducible first | refine Wo (fun K hK => ?_) | refine Wp ?_ | refine Wq ?_ | refine Wr ?_); (try simp only [go_sem, fN, seval, eT, iR, e0, e3, hlt, ha, h1, dT, dF, nL]); (repeat with_reducible refine Ai ?_); (try (refine hK _ ?_; clear hK K)); (try with_reducible refine iC ?_)))
      simp only [go_sem, fN, seval, FinQ, AS.result, resAll, resOne, tupV]
    obtain ⟨z1, _, _⟩ := nameOk_cases h1
    have z0 : 0 < a.size := z1
    by_cases h2 : byteAt a 0 = 120
    · rw [if_neg fun h => h.2.1 h2]
      repeat' (first | (with_reducible first | refine W ?_ | refine Wz0 ?_) | refine Cg _ (isName_a a) ?_ | ((with_reducible first | refine Wo (fun K hK => ?_) | refine Wp ?_ | refine Wq ?_ | refine Wr ?_); (try simp only [go_sem, fN, seval, eT, iR, e0, e3, hlt, ha, h1, h2, z0, byteN_eq, dT, dF, nL]); (repeat with_reducible refine Ai ?_); (try (refine hK _ ?_; clear hK K)); (try with_reducible refine iC ?_)))
      simp only [go_sem, fN, seval, FinQ, AS.result, resAll, resOne, tupV]
    by_cases h3 : byteAt a 0 = 99
    · rw [if_neg fun h => h.2.2 h3]
      repeat' (first | (with_reducible first | refine W ?_ | refine Wz0 ?_) | refine Cg _ (isName_a a) ?_ | ((with_reducible first | refine Wo (fun K hK => ?_) | refine Wp ?_ | refine Wq ?_ | refine Wr ?_); (try simp only [go_sem, fN, seval, eT, iR, e0, e3, hlt, ha, h1, h2, h3, z0, byteN_eq, dT, dF, nL]); (repeat with_reducible refine Ai ?_); (try (refine hK _ ?_; clear hK K)); (try with_reducible refine iC ?_)))
      simp only [go_sem, fN, seval, FinQ, AS.result, resAll, resOne, tupV]
    rw [if_pos ⟨h1, h2, h3⟩]
    by_cases h4 : isIn a (l.take k) = true
    · rw [if_pos h4]
      repeat' (first | (with_reducible first | refine W ?_ | refine Wz0 ?_) | refine Cg _ (isName_a a) ?_ | refine Cg _ (in_a a (l.take k)) ?_ | ((with_reducible first | refine Wo (fun K hK => ?_) | refine Wp ?_ | refine Wq ?_ | refine Wr ?_); (try simp only [go_sem, fN, seval, eT, iR, e0, e3, hlt, ha, h1, h2, h3, h4, z0, byteN_eq, hpre, dT, dF, nL]); (repeat with_reducible refine Ai ?_); (try (refine hK _ ?_; clear hK K)); (try with_reducible refine iC ?_)))
      simp only [go_sem, fN, seval, FinQ, AS.result, resAll, resOne, tupV]
    · rw [if_neg h4]
      repeat' (first | (with_reducible first | refine W ?_ | refine Wz0 ?_) | refine Cg _ (isName_a a) ?_ | refine Cg _ (in_a a (l.take k)) ?_ | ((with_reducible first | refine Wo (fun K hK => ?_) | refine Wp ?_ | refine Wq ?_ | refine Wr ?_); (try simp only [go_sem, fN, seval, eT, iR, e0, e3, hlt, ha, h1, h2, h3, h4, z0, byteN_eq, hpre, dT, dF, nL]); (repeat with_reducible refine Ai ?_); (try (refine hK _ ?_; clear hK K)); (try with_reducible refine iC ?_)))
      refine then_normal ⟨l.length - (k + 1), by omega, k + 1, by omega, rfl, rfl, ?_⟩
      simp only [go_sem, fN, seval, eT, iR, e0, e3]
      congr 3
  · rw [List.take_of_length_le (by omega), List.drop_eq_nil_of_le (by omega), freeL]
    repeat' (first | (with_reducible first | refine W ?_ | refine Wz0 ?_) | ((with_reducible first | refine Wo (fun K hK => ?_) | refine Wp ?_ | refine Wq ?_ | refine Wr ?_); (try simp only [go_sem, fN, seval, eT, iR, e0, e3, hlt, dT, dF, nL]); (repeat with_reducible refine Ai ?_); (try (refine hK _ ?_; clear hK K)); (try with_reducible refine iC ?_)))
    simp only [go_sem, fN, seval, FinQ, AS.result, resAll, resOne, tupV]

def fourth : Code → Code
  | .seq _ (.seq _ (.seq _ (.seq d _))) => d
  | c => c
section
variable {P : Program}
theorem acalls_defer3 {f : FuncId} {fn : Func} {mu : List Nat} {c : Code} {xA xB xZ xD xE : IR} {rs : List RV} {xs : List AV} {r : AV} {g t id : Nat} {caps : Array Operand} {xs' : List Opd} {oM oF : Oper} {ts : Array TypeId}
    (hf : P.funcs[f]? = some fn) (hb : fn.body = some c) (hx : trCode P fn.ntmps mu c = some (.seq xA (.seq xB (.seq xZ (.seq xD xE))))) (hr : trRes P fn.ntmps fn.results.toList = some rs) (hn : xs.length ≤ fn.ntmps)
    (hD : fourth c = .region id #[oM, oF] false) (hM1 : oM.op = .makeFunc (.func g) #[] caps) (hM2 : oM.dst = some t) (hM3 : oM.guard = none) (hF1 : oF.op = .defer { callee := .value (.tmp t), args := #[], argTypes := ts }) (hF2 : oF.dst = none) (hF3 : oF.guard = none) (ht : t < fn.ntmps)
    (hcaps : trOpds fn.ntmps caps.toList = some xs') (hpl : plainF P g = true)
    (h : ∀ C : Ctx, C.n = fn.ntmps → IWP P C mu xA (AX.then (fun s => IWP P C mu xB (AX.then (fun s => IWP P C mu xZ (AX.then (fun s => ∃ cs, s.caps xs' = some cs ∧ ∀ C' : Ctx, C'.n = fn.ntmps → IWP P C' mu xE (EndD P g (cs.map fun c => (AV.one c).ren up1) rs r) (s.put (some t) (.one (.fn g cs))).up) (FinQ rs r)) s) (FinQ rs r)) s) (FinQ rs r)) (AS.start xs)) : ACalls P f xs r := by
  intro σ w vs hglob hfit hvs
  have hl := hvs.len
  let C : Ctx := ⟨fn.ntmps, w.heap.size, fun _ => False, σ, w, noS, noH, fun i b h => by simp [noS] at h, hglob, [], none, true⟩
  obtain ⟨A, c2, rfl, hA, h2⟩ := trCode_seq hx
  obtain ⟨B, c3, rfl, hB, h3⟩ := trCode_seq h2
  obtain ⟨Z, c4, rfl, hZ, h4⟩ := trCode_seq h3
  obtain ⟨D, E, rfl, hD', hE⟩ := trCode_seq h4
  have hD : D = .region id #[oM, oF] false := hD
  subst hD
  refine calls_of_wp_defers hf hb ?_
  have R0 : Refs C σ noH (AS.start xs) { tmps := vs.toArray ++ Array.replicate (fn.ntmps - vs.toArray.size) undef, defers := [] } w := by
    refine ⟨by simp [C]; omega, fun i hi => ?_, marks_nil, hfit, fun id b h => by simp [AS.start, noS] at h, fun id id' b b' g h => by simp [AS.start, noS] at h, fun id b g h => by simp [AS.start, noS] at h, fun _ _ h => h, fun _ _ _ => rfl, ⟨rfl, rfl, rfl⟩, ⟨Nat.le_refl _, Nat.le_refl _⟩, fun _ _ _ => rfl, Upd.refl _ _⟩
    show VRep σ noS noH _ ((xs[i]?).getD (.tup []))
    rw [Array.getD_eq_getD_getElem?]
    by_cases hlt : i < vs.length
    · rw [Array.getElem?_append_left (by simpa using hlt)]
      obtain ⟨b, hb1, hb2⟩ := hvs.get' (List.getElem?_eq_getElem hlt)
      rw [hb1]
      simpa [hlt] using hb2
    · rw [Array.getElem?_append_right (by simp; omega), List.getElem?_eq_none (by omega)]
      have hi' : i < fn.ntmps := hi
      rw [Array.getElem?_replicate, if_pos (by simp; omega)]
      exact .tup (fun _ => undef) rfl (by simp) (by simp)
  have early : ∀ (s : AS) (a' : Act) (w' : World), s.result rs = some r → Holds C s a' w' → Leaves P fn a'.tmps (fun e w' => ∃ v σ', e = .returned v ∧ VRep σ' noS noH v r ∧ Fit σ' w' ∧ Ext w.heap.size σ σ' ∧ Below w.heap.size w w') a'.defers .returning w' := by
    intro s a' w' hs hH
    obtain ⟨σ', ι', R'⟩ := hH
    obtain ⟨v, v1, v2⟩ := res_val R' (fn := fn) hr hs
    have hnod : a'.defers = [] := R'.nod.none rfl
    rw [hnod]
    exact ⟨v, v1, v, σ', rfl, v2, R'.fit, ⟨R'.ext, fun p hp => R'.old p hp (fun h => h)⟩, ⟨R'.os.1, R'.os.2.1, R'.os.2.2, R'.grown.2, fun k hk => R'.same k hk (fun h => h)⟩⟩
  refine wp_seq (wp_mono (wpIn_wide.1 (h C rfl A hA _ w ⟨σ, noH, R0⟩)) fun e a' w' he => ?_)
  cases e with
  | normal =>
    obtain ⟨s, hs, hH⟩ := he
    refine wp_seq (wp_mono (wpIn_wide.1 (hs B hB a' w' hH)) fun e a' w' he => ?_)
    cases e with
    | normal =>
      obtain ⟨s, hs, hH⟩ := he
      refine wp_seq (wp_mono (wpIn_wide.1 (hs Z hZ a' w' hH)) fun e a' w' he => ?_)
      cases e with
      | normal =>
        obtain ⟨s, ⟨cs, hcs, hwalk⟩, ⟨σ1, ι1, R⟩⟩ := he
        refine wp_seq ?_
        have rc := caps_rep R hcaps hcs
        have ecap : (caps.toList.map a'.eval).toArray = caps.map a'.eval := by rw [← Array.toList_map, Array.toArray_toList]
        have hv : VRep σ1 s.S ι1 (.func (.func g) #[] (caps.map a'.eval)) (.one (.fn g cs)) := by
          rw [← ecap]
          refine .one (.fn (fun j => ((caps.toList.map a'.eval)[j]?).getD undef) (by simpa using rc.len) (fun j b hb => ?_) (fun j b hb => ?_))
          · obtain ⟨v, v1, v2⟩ := rc.get hb
            rw [v1]
            simpa using v1
          · obtain ⟨v, v1, v2⟩ := rc.get hb
            rw [v1]
            exact v2
        have rf : (execOp a'.eval oM).run P w' = .ok (.value (.func (.func g) #[] (caps.map a'.eval))) w' := by
          simp [execOp, hM1, Instr.makeFunc]
        have R1 := R.put (d := some t) hv
        have hta : t < a'.tmps.size := Nat.lt_of_lt_of_le ht R.size
        have hev : (a'.put (some t) (.func (.func g) #[] (caps.map a'.eval))).eval (.tmp t) = .func (.func g) #[] (caps.map a'.eval) := by
          simp [Act.eval, Act.put, hta]
        have rF : (execOp (a'.put (some t) (.func (.func g) #[] (caps.map a'.eval))).eval oF).run P w' = .ok (.defer { target := .fn (.func g) (caps.map a'.eval), args := #[] }) w' := by
          simp [execOp, hF1, resolve, hev, Deferred.ofValue]
        refine wp_region ?_
        show wpOps P #[oM, oF] _ [0, 1] a' w'
        rw [wpOps_cons]
        show (if Region.wanted oM _ then _ else _)
        rw [if_pos (by simp [Region.wanted, hM3])]
        refine .inl ?_
        show Oper.wp P oM a' w' _ _
        unfold Oper.wp
        rw [rf, Oper.upon_value, hM2, wpOps_cons]
        show (if Region.wanted oF _ then _ else _)
        rw [if_pos (by simp [Region.wanted, hF3])]
        refine .inl ?_
        show Oper.wp P oF _ w' _ _
        unfold Oper.wp
        rw [rF, Oper.upon_defer, hF2]
        let C' : Ctx := ⟨fn.ntmps, w.heap.size, fun _ => False, σ1, w', upS s.S, fun i => ι1 (dn1 i), clean_upS _, hglob.mono R.ext, [{ target := .fn (.func g) (caps.toList.map a'.eval).toArray, args := #[] }], none, true⟩
        have hnod0 : a'.defers = [] := R.nod.none rfl
        have RC : Refs C' σ1 (fun i => ι1 (dn1 i)) (s.put (some t) (.one (.fn g cs))).up { a'.put (some t) (.func (.func g) #[] (caps.map a'.eval)) with defers := { target := .fn (.func g) (caps.map a'.eval), args := #[] } :: (a'.put (some t) (.func (.func g) #[] (caps.map a'.eval))).defers } w' := by
          refine ⟨R1.size, fun i hi => val_up R1 (R1.env i hi), ?_, R1.fit, (owned_up R1).1, (owned_up R1).2, fun id b g hb hg => ?_, fun _ _ h => h, fun _ _ _ => rfl, ⟨rfl, rfl, rfl⟩, ⟨R.grown.1, Nat.le_refl _⟩, fun _ _ _ => rfl, Upd.refl _ _⟩
          · have e0 : ({ target := .fn (.func g) (caps.map a'.eval), args := #[] } : Deferred) :: a'.defers = C'.ds := by rw [hnod0, ← ecap]
            have m0 : Marks C' C'.ds w' := marks_nil
            rw [← e0] at m0
            exact m0
          · obtain ⟨_, b', k1, _⟩ := upS_inv hb
            exact R1.base _ _ g k1 hg
        have hvs1 : All2 (VRep σ1 (upS s.S) (fun i => ι1 (dn1 i))) (caps.toList.map a'.eval) (cs.map fun c => (AV.one c).ren up1) := (rc.mono fun _ _ x => val_up R (.one x)).map_right
        have fin : ∀ (s4 : AS) (a4 : Act) (w4 : World), s4.result rs = some r → Holds C' s4 a4 w4 → ∃ v, (results fn a4.tmps).run P w4 = .ok v w4 ∧ ∃ v1 σ', Ending.returned v = .returned v1 ∧ VRep σ' noS noH v1 r ∧ Fit σ' w4 ∧ Ext w.heap.size σ σ' ∧ Below w.heap.size w w4 := fun s4 a4 w4 hs4 hH4 => by
          obtain ⟨σ4, ι4, R4⟩ := hH4
          obtain ⟨v, v1, v2⟩ := res_val R4 (fn := fn) hr hs4
          exact ⟨v, v1, v, σ4, rfl, v2, R4.fit, ⟨fun p x hp => R4.ext p x (R.ext p x hp), fun p hp => (R4.old p hp (fun h => h)).trans (R.old p hp (fun h => h))⟩, ⟨R4.os.1.trans R.os.1, R4.os.2.1.trans R.os.2.1, R4.os.2.2.trans R.os.2.2, Nat.le_trans R.grown.2 R4.grown.2, fun k hk => (R4.same k hk (fun h => h)).trans (R.same k hk (fun h => h))⟩⟩
        refine wp_mono (wpIn_wide.1 (hwalk C' rfl E hE _ w' ⟨σ1, _, RC⟩)) fun e a3 w3 he => ?_
        cases e with
        | normal =>
          obtain ⟨s3, ⟨S', hdef, hres⟩, ⟨σ3, ι3, R3⟩⟩ := he
          show Leaves P fn a3.tmps _ a3.defers .returning w3
          rw [R3.nod.none rfl]
          exact leaves_one R3 hpl (hvs1.mono fun _ _ x => x.mono R3.ext R3.upd) (by simp) hdef rfl fun w4 hH4 => fin _ _ _ hres hH4
        | ret =>
          obtain ⟨s3, ⟨S', hdef, hres⟩, ⟨σ3, ι3, R3⟩⟩ := he
          show Leaves P fn a3.tmps _ a3.defers .returning w3
          rw [R3.nod.none rfl]
          exact leaves_one R3 hpl (hvs1.mono fun _ _ x => x.mono R3.ext R3.upd) (by simp) hdef rfl fun w4 hH4 => fin _ _ _ hres hH4
        | exit id =>
          obtain ⟨s3, h3, _⟩ := he
          exact h3.elim
        | panic ch =>
          obtain ⟨s3, v, ⟨⟨u', S', hdef, hset, hres⟩, rfl⟩, ⟨σ3, ι3, R3⟩⟩ := he
          show Leaves P fn a3.tmps _ a3.defers (.panicking _) w3
          rw [R3.nod.none rfl]
          exact leaves_one R3 hpl (hvs1.mono fun _ _ x => x.mono R3.ext R3.upd) (by simp) hdef hset fun w4 hH4 => fin _ _ _ hres hH4
        | goto l => exact he.elim
        | outgrown => exact he.elim
      | ret =>
        obtain ⟨s, h1, h2⟩ := he
        exact early s _ _ (show FinQ rs r .ret s from h1).2 h2
      | exit id =>
        obtain ⟨s, h1, h2⟩ := he
        exact (show FinQ rs r (.exit id) s from h1).1.elim
      | panic ch =>
        obtain ⟨s, v, h1, h2⟩ := he
        exact (show FinQ rs r (.pan v) s from h1.1).1.elim
      | goto l => exact he.elim
      | outgrown => exact he.elim
    | ret =>
      obtain ⟨s, h1, h2⟩ := he
      exact early s _ _ (show FinQ rs r .ret s from h1).2 h2
    | exit id =>
      obtain ⟨s, h1, h2⟩ := he
      exact (show FinQ rs r (.exit id) s from h1).1.elim
    | panic ch =>
      obtain ⟨s, v, h1, h2⟩ := he
      exact (show FinQ rs r (.pan v) s from h1.1).1.elim
    | goto l => exact he.elim
    | outgrown => exact he.elim
  | ret =>
    obtain ⟨s, h1, h2⟩ := he
    exact early s _ _ (show FinQ rs r .ret s from h1).2 h2
  | exit id =>
    obtain ⟨s, h1, h2⟩ := he
    exact (show FinQ rs r (.exit id) s from h1).1.elim
  | panic ch =>
    obtain ⟨s, v, h1, h2⟩ := he
    exact (show FinQ rs r (.pan v) s from h1.1).1.elim
  | goto l => exact he.elim
  | outgrown => exact he.elim
end

def lparse (s : ByteArray) (free : List ByteArray) : Lm × Int := if freeMay free = 0 then (if 4000 < s.size then (.nil, 3) else lrEnd s free) else (.nil, freeMay free)
def lreadV (r : Lm × Int) : AV := .tup [aLm r.1, aInt r.2]
theorem cloneS_N (l : List ByteArray) (hl : l.length ≤ 1000000) : ACallsN Tryd.prog 9 [aStrs l] 9 1 (l.map encS) true := by
  unfold ACallsN
  rw [List.length_map]
  refine ok_slices_Clone_string_string.acS fun hS C hC => ?_
  unfold ir_slices_Clone_string_string
  by_cases h0 : l.length = 0
  · have hl : l = [] := List.eq_nil_of_length_eq_zero h0
    subst hl
    repeat' (first | (with_reducible first | refine W ?_ | refine Wz0 ?_) | ((with_reducible first | refine Wo (fun K hK => ?_) | refine Wp ?_ | refine Wq ?_ | refine Wr ?_); (try simp only [go_sem, fN, seval, eT, iR, dT, dF, nL]); (repeat with_reducible refine Ai ?_); (try (refine hK _ ?_; clear hK K)); (try with_reducible refine iC ?_)))
    refine ⟨?_, ?_⟩
    · repeat' (first | (with_reducible first | refine W ?_ | refine Wz0 ?_) | ((with_reducible first | refine Wo (fun K hK => ?_) | refine Wp ?_ | refine Wq ?_ | refine Wr ?_); (try simp only [go_sem, fN, seval, eT, iR, dT, dF, nL]); (repeat with_reducible refine Ai ?_); (try (refine hK _ ?_; clear hK K)); (try with_reducible refine iC ?_)))
      refine finS_ghost (Ghost.ownM (C := C) 2 30 9 1 rfl rfl (by omega)) ?_
      exact finN (mu := true) trivial 30 (by decide) rfl (fun i hi => by show updE _ _ _ _ = _; rw [updE_ne _ (by omega)]; rfl) rfl
    · repeat' (first | (with_reducible first | refine W ?_ | refine Wz0 ?_) | ((with_reducible first | refine Wo (fun K hK => ?_) | refine Wp ?_ | refine Wq ?_ | refine Wr ?_); (try simp only [go_sem, fN, seval, eT, iR, dT, dF, nL]); (repeat with_reducible refine Ai ?_); (try (refine hK _ ?_; clear hK K)); (try with_reducible refine iC ?_)))
      exact finN (mu := true) trivial 7 (by decide) rfl (fun i hi => by show updE _ _ _ _ = _; rw [updE_ne _ (by omega)]; rfl) rfl
  · have hb : l.length * 16 ≤ 140737488355328 := by omega
    repeat' (first | (with_reducible first | refine W ?_ | refine Wz0 ?_) | ((with_reducible first | refine Wo (fun K hK => ?_) | refine Wp ?_ | refine Wq ?_ | refine Wr ?_); (try simp only [go_sem, fN, seval, eT, iR, h0, hb, dT, dF, nL]); (repeat with_reducible refine Ai ?_); (try (refine hK _ ?_; clear hK K)); (try with_reducible refine iC ?_)))
    exact finN (mu := true) trivial 7 (by decide) rfl (fun i hi => by show updE _ _ _ _ = _; rw [updE_ne _ (by omega)]; rfl) rfl
theorem lamRead_a (s : ByteArray) (free : List ByteArray) (hl : free.length ≤ 1000) : ACalls Tryd.prog 5 [aStr s, aStrs free] (lreadV (lparse s free)) := by
  have hfr := freeMay_range free
  unfold lparse
  refine ok_R_LamRead.ac fun C hC => ?_
  unfold ir_R_LamRead
  by_cases h1 : freeMay free = 0
  case neg =>
    rw [if_neg h1]
    unfold lreadV
    repeat' (first | (with_reducible first | refine W ?_ | refine Wz0 ?_) | refine Cg _ (freeMay_a free) ?_ | ((with_reducible first | refine Wo (fun K hK => ?_) | refine Wp ?_ | refine Wq ?_ | refine Wr ?_); (try simp only [go_sem, fN, seval, eT, iR, h1, dT, dF, nL]); (repeat with_reducible refine Ai ?_); (try (refine hK _ ?_; clear hK K)); (try with_reducible refine iC ?_)))
    simp only [go_sem, fN, seval, FinQ, AS.result, resAll, resOne, tupV]
    rfl
  rw [if_pos h1]
  by_cases h2 : (4000 : Int) < s.size
  · rw [if_pos (by omega)]
    unfold lreadV
    repeat' (first | (with_reducible first | refine W ?_ | refine Wz0 ?_) | refine Cg _ (freeMay_a free) ?_ | ((with_reducible first | refine Wo (fun K hK => ?_) | refine Wp ?_ | refine Wq ?_ | refine Wr ?_); (try simp only [go_sem, fN, seval, eT, iR, h1, h2, dT, dF, nL]); (repeat with_reducible refine Ai ?_); (try (refine hK _ ?_; clear hK K)); (try with_reducible refine iC ?_)))
    simp only [go_sem, fN, seval, FinQ, AS.result, resAll, resOne, tupV]
    rfl
  rw [if_neg (by omega)]
  have hc := fun S' (h : S' (up1 21) = some (boxS s 0 0 0)) => (rread_S (s := s) (by omega) (3 * s.size + 3)).1 free 0 0 (up1 21) S' (by omega) (by omega) (by omega) (by omega) (up1_le 21) h
  have hr : lrT s (3 * s.size + 3) free 0 0 = lrS s free := rfl
  rw [hr] at hc
  have hok := lrT_ok s (3 * s.size + 3) free 0 0 (by omega) (by omega) (by omega)
  rw [hr] at hok
  unfold lrEnd
  generalize lrS s free = q at *
  obtain ⟨o1, o2, o3, o4, o5, o6⟩ := hok
  by_cases he : q.e = 0
  case neg =>
    rw [if_neg he]
    unfold lreadV
    repeat' (first | (with_reducible first | refine W ?_ | refine Wz0 ?_) | refine Cg _ (freeMay_a free) ?_ | ((with_reducible first | refine Wo (fun K hK => ?_) | refine Wp ?_ | refine Wq ?_ | refine Wr ?_); (try simp only [go_sem, fN, seval, eT, iR, h1, h2, dT, dF, nL]); (repeat with_reducible refine Ai ?_); (try (refine hK _ ?_; clear hK K)); (try with_reducible refine iC ?_)))
    refine ⟨_, _, hc _ (by rw [upS_up, updE_same]; rfl), ?_⟩
    repeat' (first | (with_reducible first | refine W ?_ | refine Wz0 ?_) | ((with_reducible first | refine Wo (fun K hK => ?_) | refine Wp ?_ | refine Wq ?_ | refine Wr ?_); (try simp only [go_sem, fN, seval, eT, iR, he, dT, dF, nL]); (repeat with_reducible refine Ai ?_); (try (refine hK _ ?_; clear hK K)); (try with_reducible refine iC ?_)))
    simp only [go_sem, fN, seval, FinQ, AS.result, resAll, resOne, tupV]
    rfl
  rw [if_pos he]
  by_cases h3 : q.i < s.size
  · rw [if_pos h3]
    have h3i : (q.i : Int) < s.size := by omega
    unfold lreadV
    repeat' (first | (with_reducible first | refine W ?_ | refine Wz0 ?_) | refine Cg _ (freeMay_a free) ?_ | ((with_reducible first | refine Wo (fun K hK => ?_) | refine Wp ?_ | refine Wq ?_ | refine Wr ?_); (try simp only [go_sem, fN, seval, eT, iR, h1, h2, dT, dF, nL]); (repeat with_reducible refine Ai ?_); (try (refine hK _ ?_; clear hK K)); (try with_reducible refine iC ?_)))
    refine ⟨_, _, hc _ (by rw [upS_up, updE_same]; rfl), ?_⟩
    repeat' (first | (with_reducible first | refine W ?_ | refine Wz0 ?_) | ((with_reducible first | refine Wo (fun K hK => ?_) | refine Wp ?_ | refine Wq ?_ | refine Wr ?_); (try simp only [go_sem, fN, seval, eT, iR, he, h3i, dT, dF, nL]); (repeat with_reducible refine Ai ?_); (try (refine hK _ ?_; clear hK K)); (try with_reducible refine iC ?_)))
    simp only [go_sem, fN, seval, FinQ, AS.result, resAll, resOne, tupV]
    rfl
  · rw [if_neg h3]
    have h3i : ¬ (q.i : Int) < s.size := by omega
    unfold lreadV
    repeat' (first | (with_reducible first | refine W ?_ | refine Wz0 ?_) | refine Cg _ (freeMay_a free) ?_ | ((with_reducible first | refine Wo (fun K hK => ?_) | refine Wp ?_ | refine Wq ?_ | refine Wr ?_); (try simp only [go_sem, fN, seval, eT, iR, h1, h2, dT, dF, nL]); (repeat with_reducible refine Ai ?_); (try (refine hK _ ?_; clear hK K)); (try with_reducible refine iC ?_)))
    refine ⟨_, _, hc _ (by rw [upS_up, updE_same]; rfl), ?_⟩
    repeat' (first | (with_reducible first | refine W ?_ | refine Wz0 ?_) | ((with_reducible first | refine Wo (fun K hK => ?_) | refine Wp ?_ | refine Wq ?_ | refine Wr ?_); (try simp only [go_sem, fN, seval, eT, iR, he, h3i, dT, dF, nL]); (repeat with_reducible refine Ai ?_); (try (refine hK _ ?_; clear hK K)); (try with_reducible refine iC ?_)))
    simp only [go_sem, fN, seval, FinQ, AS.result, resAll, resOne, tupV]
theorem lendD_pan {n : Int} (hn : inR .i64 n) {x : AS} {c1 c2 c3 : AC} {x1 : AC} (e2 : x.env 4 = .one (.ptr 1004 1 0 0)) (e3 : x.env 5 = .one (.ptr 1005 1 0 0)) (t2 : x.S 1004 = some (.box 25 [c1, c2, c3])) (t3 : x.S 1005 = some (.box 26 [x1])) :
    EndD Tryd.prog 8 [.one (.ptr 1004 1 0 0), .one (.ptr 1005 1 0 0)] [RV.cell 4 true 3, RV.cell 5 false 1] (lreadV (.nil, n)) (.pan (lfault n)) x := by
  refine ⟨_, _, lparse1_pan n hn 2004 2005 (upS x.S) (cs1 := [c1.ren up1, c2.ren up1, c3.ren up1]) (x1 := x1.ren up1) (by decide) (by decide) (by decide) ?_ rfl ?_, lsettled n, ?_⟩
  · rw [show (2004 : Nat) = up1 1004 from rfl, upS_up, t2]
    rfl
  · rw [show (2005 : Nat) = up1 1005 from rfl, upS_up, t3]
    rfl
  · unfold lgone
    rw [show (2004 : Nat) = up1 1004 from rfl, show (2005 : Nat) = up1 1005 from rfl, dnS_upd, dnS_upd, dn_upS]
    unfold AS.result
    simp only [go_sem, fN, seval, eT, iR, resAll, resOne, tupV, e2, e3]
    rfl
set_option maxRecDepth 100000 in
theorem lparse_a (s : ByteArray) (free : List ByteArray) (hl : free.length ≤ 1000) : ACalls Tryd.prog 4 [aStr s, aStrs free] (lreadV (lparse s free)) := by
  have hfr := freeMay_range free
  unfold lparse
  refine acalls_defer3 (f := 4) (g := 8) (t := 18) (rs := [.cell 4 true 3, .cell 5 false 1]) Tryd.func4 rfl tr_lambda_Parse rfl (Nat.le_of_ble_eq_true rfl) rfl rfl rfl rfl rfl rfl rfl (Nat.le_of_ble_eq_true rfl) rfl (by kernel_rfl) fun C hC => ?_
  have hC : C.n = 33 := hC
  by_cases h1 : freeMay free = 0
  case neg =>
    rw [if_neg h1]
    unfold lreadV
    repeat' (first | (with_reducible first | refine W ?_ | refine Wz0 ?_) | ((with_reducible first | refine Wx rfl (fun K hK => ?_) | refine Wp ?_ | refine Wq ?_ | refine Wr ?_); (try simp only [go_sem, fN, seval, eT, iR, h1, dT, dF, nL]); (repeat with_reducible refine Ai ?_); (try (refine hK _ ?_; clear hK K)); (try with_reducible refine iC ?_)))
    refine then_normal ?_
    repeat' (first | (with_reducible first | refine W ?_ | refine Wz0 ?_) | refine Cg _ (names_a free) ?_ | ((with_reducible first | refine Wx rfl (fun K hK => ?_) | refine Wp ?_ | refine Wq ?_ | refine Wr ?_); (try simp only [go_sem, fN, seval, eT, iR, h1, dT, dF, nL]); (repeat with_reducible refine Ai ?_); (try (refine hK _ ?_; clear hK K)); (try with_reducible refine iC ?_)))
    simp only [go_sem, fN, seval, FinQ, AS.result, resAll, resOne, tupV]
    rfl
  rw [if_pos h1]
  by_cases h0 : (4000 : Int) < s.size
  · rw [if_pos (by omega)]
    unfold lreadV
    repeat' (first | (with_reducible first | refine W ?_ | refine Wz0 ?_) | ((with_reducible first | refine Wx rfl (fun K hK => ?_) | refine Wp ?_ | refine Wq ?_ | refine Wr ?_); (try simp only [go_sem, fN, seval, eT, iR, h0, dT, dF, nL]); (repeat with_reducible refine Ai ?_); (try (refine hK _ ?_; clear hK K)); (try with_reducible refine iC ?_)))
    refine then_normal ?_
    repeat' (first | (with_reducible first | refine W ?_ | refine Wz0 ?_) | refine Cg _ (names_a free) ?_ | ((with_reducible first | refine Wx rfl (fun K hK => ?_) | refine Wp ?_ | refine Wq ?_ | refine Wr ?_); (try simp only [go_sem, fN, seval, eT, iR, h1, h0, dT, dF, nL]); (repeat with_reducible refine Ai ?_); (try (refine hK _ ?_; clear hK K)); (try with_reducible refine iC ?_)))
    refine then_normal ?_
    repeat' (first | (with_reducible first | refine W ?_ | refine Wz0 ?_) | ((with_reducible first | refine Wx rfl (fun K hK => ?_) | refine Wp ?_ | refine Wq ?_ | refine Wr ?_); (try simp only [go_sem, fN, seval, eT, iR, h0, dT, dF, nL]); (repeat with_reducible refine Ai ?_); (try (refine hK _ ?_; clear hK K)); (try with_reducible refine iC ?_)))
    simp only [go_sem, fN, seval, FinQ, AS.result, resAll, resOne, tupV]
    rfl
  have hs : s.size ≤ 100000 := by omega
  rw [if_neg (by omega)]
  repeat' (first | (with_reducible first | refine W ?_ | refine Wz0 ?_) | ((with_reducible first | refine Wx rfl (fun K hK => ?_) | refine Wp ?_ | refine Wq ?_ | refine Wr ?_); (try simp only [go_sem, fN, seval, eT, iR, h0, dT, dF, nL]); (repeat with_reducible refine Ai ?_); (try (refine hK _ ?_; clear hK K)); (try with_reducible refine iC ?_)))
  refine then_normal ?_
  repeat' (first | (with_reducible first | refine W ?_ | refine Wz0 ?_) | refine Cg _ (names_a free) ?_ | ((with_reducible first | refine Wx rfl (fun K hK => ?_) | refine Wp ?_ | refine Wq ?_ | refine Wr ?_); (try simp only [go_sem, fN, seval, eT, iR, h1, h0, dT, dF, nL]); (repeat with_reducible refine Ai ?_); (try (refine hK _ ?_; clear hK K)); (try with_reducible refine iC ?_)))
  refine then_normal ?_
  repeat' (first | (with_reducible first | refine W ?_ | refine Wz0 ?_) | ((with_reducible first | refine Wx rfl (fun K hK => ?_) | refine Wp ?_ | refine Wq ?_ | refine Wr ?_); (try simp only [go_sem, fN, seval, eT, iR, h0, dT, dF, nL]); (repeat with_reducible refine Ai ?_); (try (refine hK _ ?_; clear hK K)); (try with_reducible refine iC ?_)))
  refine then_normal ⟨_, by simp [AS.caps]; rfl, fun C' hC' => ?_⟩
  have hC' : C'.n = 33 := hC'
  generalize hT : AS.up _ = T
  have e0 : T.env 0 = aStr s := by subst hT; rfl
  have e1 : T.env 1 = aStrs free := by subst hT; rfl
  have e4 : T.env 4 = .one (.ptr 1004 1 0 0) := by subst hT; rfl
  have e5 : T.env 5 = .one (.ptr 1005 1 0 0) := by subst hT; rfl
  have t4 : T.S 1004 = some boxT0l := by subst hT; rfl
  have t5 : T.S 1005 = some (.box 26 [.st (.int .i64 0)]) := by subst hT; rfl
  have t21 : T.S 21 = none := by subst hT; rfl
  have t23 : T.S 23 = none := by subst hT; rfl
  have t900 : T.S 900 = none := by subst hT; rfl
  obtain ⟨env, S⟩ := T
  simp only at e0 e1 e4 e5 t4 t5 t21 t23 t900
  clear hT
  have h40 : free.length ≤ 40 := by
    unfold freeMay at h1
    by_cases h : 40 < free.length
    · rw [if_pos h] at h1; cases h1
    · omega
  have hcall := fun S' h1 h2 h3 => (lread_S hs (3 * s.size + 3)).1 free 0 0 (up1 23) (up1 21) (up1 900) (free.length + s.size + 2) S' (by omega) (by omega) (by omega) (by omega) (by omega) (up1_le 23) (up1_le 21) (up1_le 900) h1 h2 h3
  have hr : lrT s (3 * s.size + 3) free 0 0 = lrS s free := rfl
  rw [hr, tail_zero] at hcall
  have hok := lrT_ok s (3 * s.size + 3) free 0 0 (by omega) (by omega) (by omega)
  rw [hr] at hok
  unfold lrEnd
  generalize lrS s free = q at *
  have hrange : inR .i64 q.e := by
    rw [inR_i64]
    have := hok.err
    omega
  by_cases he : q.e = 0
  case neg =>
    rw [if_neg he]
    repeat' (first | (with_reducible first | refine W ?_ | refine Wz0 ?_) | ((with_reducible first | refine Wx rfl (fun K hK => ?_) | refine Wp ?_ | refine Wq ?_ | refine Wr ?_); (try simp only [go_sem, fN, seval, eT, iR, e0, e1, e4, e5, t4, t5, t21, t23, t900, dT, dF, nL]); (repeat with_reducible refine Ai ?_); (try (refine hK _ ?_; clear hK K)); (try with_reducible refine iC ?_)))
    refine CallNG.mk _ _ _ _ (cloneS_N free (by omega)) ⟨t21, by simp, ?_⟩
    have hml : (free.map encS).length = free.length := by simp
    repeat' (first | (with_reducible first | refine W ?_ | refine Wz0 ?_) | (first | refine IWP.opsPanE 1 ⟨some 25, none, .callS 10 [.t 24], .no⟩ rfl (by kernel_rfl) ?_) | ((with_reducible first | refine Wx rfl (fun K hK => ?_) | refine Wp ?_ | refine Wq ?_ | refine Wr ?_); (try simp only [go_sem, fN, seval, eT, iR, e0, e1, e4, e5, t4, t5, t21, t23, t900, hml, rowB, dT, dF, nL]); (repeat with_reducible refine Ai ?_); (try (refine hK _ ?_; clear hK K)); (try with_reducible refine iC ?_)))
    simp only [go_sem, fN, seval, eT, iR, PanAt, List.take_succ_cons, List.take_zero, e0, e1, e4, e5, t4, t5]
    refine ⟨_, _, (hcall _ (up_boxL (by simp only [go_sem, fN, seval, eT, iR])) (up_rowL (by simp only [go_sem, fN, seval, eT, iR])) (up_none (by simp only [go_sem, fN, seval, eT, iR, t900]))).2 he, fun envP hE => ?_⟩
    refine Wy (lendD_pan (c1 := .st (.int .i64 0)) (c2 := .st (.int .i64 0)) (c3 := .full []) (x1 := .st (.int .i64 0)) hrange ((hE 4 rfl).trans (by simp only [go_sem, fN, seval, eT, iR, e4])) ((hE 5 rfl).trans (by simp only [go_sem, fN, seval, eT, iR, e5])) ?_ ?_)
    · simp only [go_sem, fN, seval, eT, iR, dn_lfail, lfail, t4]
    · simp only [go_sem, fN, seval, eT, iR, dn_lfail, lfail, t5]
  rw [if_pos he]
  obtain ⟨o1, o2, o3, o4⟩ := hok.ok he
  have hml : (free.map encS).length = free.length := by simp
  by_cases h2 : q.i < s.size
  · have h2n : ¬ tailS s q.i = ⟨#[]⟩ := fun h => by have := (ltail_nil o1).1 h; omega
    rw [if_pos h2]
    repeat' (first | (with_reducible first | refine W ?_ | refine Wz0 ?_) | ((with_reducible first | refine Wx rfl (fun K hK => ?_) | refine Wp ?_ | refine Wq ?_ | refine Wr ?_); (try simp only [go_sem, fN, seval, eT, iR, e0, e1, e4, e5, t4, t5, t21, t23, t900, dT, dF, nL]); (repeat with_reducible refine Ai ?_); (try (refine hK _ ?_; clear hK K)); (try with_reducible refine iC ?_)))
    refine CallNG.mk _ _ _ _ (cloneS_N free (by omega)) ⟨t21, by simp, ?_⟩
    repeat' (first | (with_reducible first | refine W ?_ | refine Wz0 ?_) | ((with_reducible first | refine Wx rfl (fun K hK => ?_) | refine Wp ?_ | refine Wq ?_ | refine Wr ?_); (try simp only [go_sem, fN, seval, eT, iR, e0, e1, e4, e5, t4, t5, t21, t23, t900, hml, rowB, dT, dF, nL]); (repeat with_reducible refine Ai ?_); (try (refine hK _ ?_; clear hK K)); (try with_reducible refine iC ?_)))
    refine ⟨_, _, (hcall _ (up_boxL (by simp only [go_sem, fN, seval, eT, iR])) (up_rowL (by simp only [go_sem, fN, seval, eT, iR])) (up_none (by simp only [go_sem, fN, seval, eT, iR, t900]))).1 he, ?_⟩
    repeat' (first | (with_reducible first | refine W ?_ | refine Wz0 ?_) | ((with_reducible first | refine Wx rfl (fun K hK => ?_) | refine Wp ?_ | refine Wq ?_ | refine Wr ?_); (try simp only [go_sem, fN, seval, eT, iR, dn_ldone, ldone, e0, e1, e4, e5, t4, t5, h2n, dT, dF, nL]); (repeat with_reducible refine Ai ?_); (try (refine hK _ ?_; clear hK K)); (try with_reducible refine iC ?_)))
    refine IWP.opsPanE 1 _ rfl (by kernel_rfl) ?_
    simp only [go_sem, fN, seval, eT, iR, PanAt, List.take_succ_cons, List.take_zero, e0, e1, e4, e5, t4, t5]
    intro envP hE
    refine Wy (lendD_pan (n := 12) (c1 := .st (.int .i64 q.t.kind)) (c2 := .st (.int .i64 q.t.idx)) (c3 := .st (.list (List.map encL q.t.subs))) (x1 := .st (.int .i64 0)) (by decide) ((hE 4 rfl).trans (by simp only [go_sem, fN, seval, eT, iR, e4])) ((hE 5 rfl).trans (by simp only [go_sem, fN, seval, eT, iR, e5])) ?_ ?_)
    · simp only [go_sem, fN, seval, eT, iR, t4]
    · simp only [go_sem, fN, seval, eT, iR, t5]
  · have h2n : tailS s q.i = ⟨#[]⟩ := (ltail_nil o1).2 (by omega)
    rw [if_neg h2]
    repeat' (first | (with_reducible first | refine W ?_ | refine Wz0 ?_) | ((with_reducible first | refine Wx rfl (fun K hK => ?_) | refine Wp ?_ | refine Wq ?_ | refine Wr ?_); (try simp only [go_sem, fN, seval, eT, iR, e0, e1, e4, e5, t4, t5, t21, t23, t900, dT, dF, nL]); (repeat with_reducible refine Ai ?_); (try (refine hK _ ?_; clear hK K)); (try with_reducible refine iC ?_)))
    refine CallNG.mk _ _ _ _ (cloneS_N free (by omega)) ⟨t21, by simp, ?_⟩
    repeat' (first | (with_reducible first | refine W ?_ | refine Wz0 ?_) | ((with_reducible first | refine Wx rfl (fun K hK => ?_) | refine Wp ?_ | refine Wq ?_ | refine Wr ?_); (try simp only [go_sem, fN, seval, eT, iR, e0, e1, e4, e5, t4, t5, t21, t23, t900, hml, rowB, dT, dF, nL]); (repeat with_reducible refine Ai ?_); (try (refine hK _ ?_; clear hK K)); (try with_reducible refine iC ?_)))
    refine ⟨_, _, (hcall _ (up_boxL (by simp only [go_sem, fN, seval, eT, iR])) (up_rowL (by simp only [go_sem, fN, seval, eT, iR])) (up_none (by simp only [go_sem, fN, seval, eT, iR, t900]))).1 he, ?_⟩
    repeat' (first | (with_reducible first | refine W ?_ | refine Wz0 ?_) | ((with_reducible first | refine Wx rfl (fun K hK => ?_) | refine Wp ?_ | refine Wq ?_ | refine Wr ?_); (try simp only [go_sem, fN, seval, eT, iR, dn_ldone, ldone, e0, e1, e4, e5, t4, t5, h2n, dT, dF, nL]); (repeat with_reducible refine Ai ?_); (try (refine hK _ ?_; clear hK K)); (try with_reducible refine iC ?_)))
    refine ⟨_, lparse1_idle _ _ _, ?_⟩
    rw [dn_upS]
    unfold AS.result
    simp only [go_sem, fN, seval, eT, iR, resAll, resOne, tupV, e4, e5]
    rfl

theorem lparse_nil (s : ByteArray) (free : List ByteArray) : (lparse s free).2 = 0 ∨ ((lparse s free).2 ≠ 0 ∧ (lparse s free).1 = .nil) := by
  unfold lparse
  by_cases h1 : freeMay free = 0
  · rw [if_pos h1]
    by_cases h2 : 4000 < s.size
    · rw [if_pos h2]
      exact .inr ⟨by decide, rfl⟩
    · rw [if_neg h2]
      unfold lrEnd
      by_cases h3 : (lrS s free).e = 0
      · rw [if_pos h3]
        by_cases h4 : (lrS s free).i < s.size
        · rw [if_pos h4]
          exact .inr ⟨by decide, rfl⟩
        · rw [if_neg h4]
          exact .inl rfl
      · rw [if_neg h3]
        exact .inr ⟨h3, rfl⟩
  · rw [if_neg h1]
    exact .inr ⟨h1, rfl⟩
theorem lambdaParses_a (s : ByteArray) (free : List ByteArray) : ACalls Tryd.prog 3 [aStr s, aStrs free] (aBool true) := by
  refine ok_L_LambdaParses.ac fun C hC => ?_
  unfold ir_L_LambdaParses
  by_cases h1 : (100 : Int) < free.length
  · repeat' (first | (with_reducible first | refine W ?_ | refine Wz0 ?_) | ((with_reducible first | refine Wo (fun K hK => ?_) | refine Wp ?_ | refine Wq ?_ | refine Wr ?_); (try simp only [go_sem, fN, seval, eT, iR, h1, dT, dF, nL]); (repeat with_reducible refine Ai ?_); (try (refine hK _ ?_; clear hK K)); (try with_reducible refine iC ?_)))
    simp only [go_sem, fN, seval, FinQ, AS.result, resAll, resOne, tupV]
  have hA := lparse_a s free (by omega)
  have hB := lamRead_a s free (by omega)
  have hn := lparse_nil s free
  unfold lreadV at hA hB
  generalize lparse s free = r at *
  obtain ⟨t, e⟩ := r
  simp only at hA hB hn
  have hC := lam2_a t t e (by
    rcases hn with h | ⟨h, h'⟩
    · exact .inr ⟨h, rfl⟩
    · exact .inl ⟨h, h'⟩)
  by_cases h2 : (1500 : Int) < s.size
  · by_cases h3 : (s.size : Int) ≤ 4000
    · repeat' (first | (with_reducible first | refine W ?_ | refine Wz0 ?_) | ((with_reducible first | refine Wo (fun K hK => ?_) | refine Wp ?_ | refine Wq ?_ | refine Wr ?_); (try simp only [go_sem, fN, seval, eT, iR, h1, h2, h3, dT, dF, nL]); (repeat with_reducible refine Ai ?_); (try (refine hK _ ?_; clear hK K)); (try with_reducible refine iC ?_)))
      simp only [go_sem, fN, seval, FinQ, AS.result, resAll, resOne, tupV]
    · repeat' (first | (with_reducible first | refine W ?_ | refine Wz0 ?_) | refine Cg _ (hA) ?_ | refine Cg _ (hB) ?_ | refine Cg _ (hC) ?_ | ((with_reducible first | refine Wo (fun K hK => ?_) | refine Wp ?_ | refine Wq ?_ | refine Wr ?_); (try simp only [go_sem, fN, seval, eT, iR, h1, h2, h3, dT, dF, nL]); (repeat with_reducible refine Ai ?_); (try (refine hK _ ?_; clear hK K)); (try with_reducible refine iC ?_)))
      simp only [go_sem, fN, seval, FinQ, AS.result, resAll, resOne, tupV]
  · repeat' (first | (with_reducible first | refine W ?_ | refine Wz0 ?_) | refine Cg _ (hA) ?_ | refine Cg _ (hB) ?_ | refine Cg _ (hC) ?_ | ((with_reducible first | refine Wo (fun K hK => ?_) | refine Wp ?_ | refine Wq ?_ | refine Wr ?_); (try simp only [go_sem, fN, seval, eT, iR, h1, h2, dT, dF, nL]); (repeat with_reducible refine Ai ?_); (try (refine hK _ ?_; clear hK K)); (try with_reducible refine iC ?_)))
    simp only [go_sem, fN, seval, FinQ, AS.result, resAll, resOne, tupV]

open Go.ChangeShapes Go.WideShapes Go.ChangeAt
section
variable {H : Type} {enc : TypeId × Value → H} {P : Program}
theorem trodAll_stays (hl : laidOutB P = true) : ∀ {ts : List TypeId} {vs : List Value} {ds : List (DataW H)} {ps : List MemPlace} {W W' : World} {sp : Nat → Bool},
    (∀ t ∈ ts, P.readableRec t = true ∧ t < P.types.size) → DataW.TrodAll enc P W 0 (fun _ => true) true ts vs ds ps → (∀ p ∈ ps, W.sameAt W' p) → (∀ p ∈ ps, sp p.block = true) → DataW.TrodAll enc P W' 0 sp true ts vs ds ps
  | [], [], [], _, _, _, _, _, h, _, _ => h
  | _ :: _, _ :: _, _ :: _, _, _, _, _, hT, ⟨p, q, h1, h2, e⟩, hsame, hs => ⟨p, q, WideElems.Trod_stays hl (hT _ (List.mem_cons.2 (Or.inl rfl))).1 (hT _ (List.mem_cons.2 (Or.inl rfl))).2 h1 (fun x hx => hsame x (by rw [e]; exact List.mem_append_left _ hx)) (fun x hx => hs x (by rw [e]; exact List.mem_append_left _ hx)),
      trodAll_stays hl (fun t ht => hT t (List.mem_cons.2 (Or.inr ht))) h2 (fun x hx => hsame x (by rw [e]; exact List.mem_append_right _ hx)) (fun x hx => hs x (by rw [e]; exact List.mem_append_right _ hx)), e⟩
  | [], _ :: _, _, _, _, _, _, _, h, _, _ => h.elim
  | [], [], _ :: _, _, _, _, _, _, h, _, _ => h.elim
  | _ :: _, [], _, _, _, _, _, _, h, _, _ => h.elim
  | _ :: _, _ :: _, [], _, _, _, _, _, h, _, _ => h.elim
theorem law_post {f : Func} {s : ChangeSpec} {apart fresh handsOn : Bool} {W W' : World} {args : Array Value} {ds : List (DataW H)} {before : List MemPlace} {tb : TypeId}
    (hW : DataW.Whole enc P f.params.toList s.vars apart W args.toList ds [] before) (hv : s.vars = []) (hr : f.resultTypes = #[tb]) (htb : P.underlying tb = some .bool)
    (hres : (s.fn H (ds ++ [])).results = [.lit (.bool true)]) (hargs : (s.fn H (ds ++ [])).args = ds) (hvs : (s.fn H (ds ++ [])).vars = [])
    (hl : laidOutB P = true) (hT : (f.params.toList.all fun t => P.readableRec t && decide (t < P.types.size)) = true) (hb : Below W.heap.size W W') :
    s.post enc P f apart fresh handsOn false W args (.bool true) W' := by
  have hlt : ∀ p ∈ before, p.block < W.heap.size := fun p hp => hW.lt p hp
  have hT' : ∀ t ∈ f.params.toList, P.readableRec t = true ∧ t < P.types.size := fun t ht => by
    have := List.all_eq_true.1 hT t ht
    simpa using this
  obtain ⟨p, q, hA, hV, rfl, hz, hn⟩ := hW
  rw [hv] at hV
  obtain ⟨_, rfl⟩ := trodVars_none hV
  have hargs' : ∀ sp : Nat → Bool, (∀ x ∈ p, sp x.block = true) → DataW.TrodAll enc P W' 0 sp true f.params.toList args.toList ds p := fun sp hsp =>
    trodAll_stays hl hT' hA (fun x hx => hb.same (hlt x (by simpa using hx))) hsp
  have hres' : ∀ (b : Nat) (sp : Nat → Bool) (hd : Bool), DataW.TrodAll enc P W' b sp hd f.resultTypes.toList ((Value.bool true).resultList f.resultTypes.size) (s.fn H (ds ++ [])).results [] := fun b sp hd => by
    rw [hres, hr]
    exact trodAll_cons_mk (shut_bool htb true) trodAll_mk0
  refine ⟨ds, [], p ++ [], [], p, [], ⟨p, [], hA, by rw [hv]; exact rfl, rfl, hz, hn⟩, hres' _ _ _, by rw [hargs]; exact hargs' _ (fun x hx => by simpa using hlt x (by simpa using hx)), by rw [hv, hvs]; exact rfl,
    World.keptBut_mono (fun x hx => ⟨hx, Or.inr (by simpa using hx)⟩) (hb.frame (· ∈ p ++ [])), fun h => by cases h⟩
variable {W : World} {sp : Nat → Bool} {hd : Bool} {base : Nat}
def sto (W : World) : Sto := look W
theorem fit_sto (W : World) : Fit (sto W) W := fun _ _ h => h
theorem spot_none {W : World} {a : Addr} {v : Value} (h : W.cell? a = some v) : a.spot = none := by
  cases hs : a.spot with
  | none => rfl
  | some n =>
    unfold World.cell? at h
    split at h
    · simp [hs] at h
    · cases h
theorem choose_list {α : Type} {p : Nat → α → Prop} {n : Nat} (h : ∀ i, i < n → ∃ b, p i b) : ∃ xs : List α, xs.length = n ∧ ∀ i (h : i < xs.length), p i xs[i] := by
  induction n with
  | zero => exact ⟨[], rfl, fun i h => absurd h (by simp)⟩
  | succ m ih =>
    obtain ⟨xs, h1, h2⟩ := ih (fun i hi => h i (by omega))
    obtain ⟨b, h3⟩ := h m (by omega)
    refine ⟨xs ++ [b], by simp [h1], fun i hi => ?_⟩
    by_cases him : i < xs.length
    · rw [List.getElem_append_left him]
      exact h2 i him
    · have : i = xs.length := by simp at hi; omega
      subst this
      rw [show (xs ++ [b])[xs.length]'hi = b by simp, h1]
      exact h3
theorem list_of_trod {α : Type} {e0 : α → List SV} {t e : TypeId} {k : Nat} {fuel : Nat} {cs : List Value} {x : DataW H × List MemPlace} (ht : P.underlying t = some (.slice e)) (hc : P.cellsOf e = k) (hlen : ∀ a, (e0 a).length = k) (hk : 0 < k)
    (f : ∀ (n : Nat) (cs : List Value) (y : DataW H × List MemPlace), n < fuel → DataW.trod enc P W base sp hd n e cs = some y → ∃ a : α, All2 (SRep (sto W)) cs (e0 a))
    (h : DataW.trod enc P W base sp hd fuel t cs = some x) (hs : hardRows = true → k < 2 := by decide) : ∃ xs : List α, All2 (SRep (sto W)) cs [.list (xs.map e0)] := by
  rcases DataW.trod_slice ht h with ⟨rfl, _⟩ | ⟨a, len, cap, elems, rest, n, hfu, rfl, _, hb, hl, hm, hlen', hel, _, _⟩
  · exact ⟨[], .cons srep_nil .nil⟩
  · have key : ∀ i, i < len → ∃ (b : α), ∃ (cs' : List Value), cs'.length = k ∧ (∀ j u, cs'[j]? = some u → W.cell? ((a.add (i * k)).add j) = some u) ∧ All2 (SRep (sto W)) cs' (e0 b) := fun i hi => by
      have h1 := hel i hi
      rw [List.getElem?_eq_getElem (by omega)] at h1
      obtain ⟨cs', h2, h3⟩ := Option.bind_eq_some_iff.1 h1
      obtain ⟨_, h4, h5⟩ := World.cells?_some h2
      obtain ⟨b, hb⟩ := f n cs' _ (by omega) h3
      rw [hc] at h4 h5
      refine ⟨b, cs', h4, fun j u hj => ?_, hb⟩
      rw [h5 j (by have := (List.getElem?_eq_some_iff.1 hj).1; omega)]
      exact hj
    obtain ⟨xs, hxl, hxs⟩ : ∃ xs : List α, xs.length = len ∧ ∀ i (h : i < xs.length), ∃ cs' : List Value, cs'.length = k ∧ (∀ j u, cs'[j]? = some u → W.cell? ((a.add (i * k)).add j) = some u) ∧ All2 (SRep (sto W)) cs' (e0 xs[i]) := choose_list key
    have cell : ∀ m y j z, (xs.map e0)[m]? = some y → y[j]? = some z → ∃ v, W.cell? ⟨a.block, a.off + m * k + j, none⟩ = some v ∧ SRep (sto W) v z := fun m y j z hy hz => by
      rw [List.getElem?_map, Option.map_eq_some_iff] at hy
      obtain ⟨b, hb', rfl⟩ := hy
      obtain ⟨hm', hbe⟩ := List.getElem?_eq_some_iff.1 hb'
      obtain ⟨cs', c1, c2, c3⟩ := hxs m hm'
      rw [hbe] at c3
      obtain ⟨v, v1, v2⟩ := c3.get hz
      refine ⟨v, ?_, v2⟩
      have := c2 j v v1
      have hsp := spot_none this
      rw [← this]
      congr 1
      have h7 : ((a.add (m * k)).add j).block = a.block ∧ ((a.add (m * k)).add j).off = a.off + m * k + j := by
        unfold Addr.add
        split <;> split <;> simp_all
      generalize (a.add (m * k)).add j = q at *
      cases q
      simp_all
    refine ⟨xs, .cons (.list (b := a.block) (o := a.off) (w := k) (fun m j => (W.cell? ⟨a.block, a.off + m * k + j, none⟩).getD undef) (by simp [hxl]) hl hm (by simp) (fun h0 => ?_) (fun y hy => ?_) (fun q1 q2 _ => absurd (hs q1) (by omega)) (fun m y j z hy hz => ?_) (fun m y j z hy hz => ?_)) .nil⟩
    · obtain ⟨cs', h1, h2, h3⟩ := hxs 0 (by omega)
      have h4 : W.cell? a = some (cs'[0]'(by omega)) := by
        have := h2 0 _ (List.getElem?_eq_getElem (by omega))
        simpa [Addr.add] using this
      have := spot_none h4
      cases a
      simp_all
    · obtain ⟨b, _, rfl⟩ := List.mem_map.1 hy
      exact hlen b
    · obtain ⟨v, v1, v2⟩ := cell m y j z hy hz
      show W.cell? _ = _
      rw [v1]; rfl
    · obtain ⟨v, v1, v2⟩ := cell m y j z hy hz
      rw [v1]; exact v2
theorem str_trod {t : TypeId} (ht : P.underlying t = some .string) (fuel : Nat) (cs : List Value) (x : DataW H × List MemPlace) (h : DataW.trod enc P W base sp hd fuel t cs = some x) : ∃ s : ByteArray, All2 (SRep (sto W)) cs (encS s) := by
  obtain ⟨s, rfl, _, hs⟩ := DataW.trod_string ht h
  exact ⟨s, .cons (.str hs) .nil⟩
theorem arg_str {t : TypeId} (ht : P.underlying t = some .string) {r : Reach} {b0 : Nat} {v : Value} {d : DataW H} {p : List MemPlace} (hv : Value.okWide P W r b0 t v) (h : DataW.Trod enc P W base sp hd t v d p) : ∃ s : ByteArray, VRep (sto W) noS noH v (aStr s) := by
  obtain ⟨s, rfl⟩ := okWide_string ht hv
  obtain ⟨fuel, hf⟩ := h
  obtain ⟨s', hs⟩ := str_trod ht fuel _ _ hf
  have : All2 (SRep (sto W)) [.string s] (encS s') := hs
  cases this with
  | cons h1 h2 => exact ⟨s', .one (.st h1)⟩
theorem arg_list {α : Type} {e0 : α → List SV} {t e : TypeId} {k : Nat} (ht : P.underlying t = some (.slice e)) (hc : P.cellsOf e = k) (hlen : ∀ a, (e0 a).length = k) (hk : 0 < k) {r : Reach} {b0 : Nat} {v : Value} {d : DataW H} {p : List MemPlace} (hv : Value.okWide P W r b0 t v)
    (f : ∀ (n : Nat) (cs : List Value) (y : DataW H × List MemPlace), DataW.trod enc P W base sp hd n e cs = some y → ∃ a : α, All2 (SRep (sto W)) cs (e0 a)) (h : DataW.Trod enc P W base sp hd t v d p) (hs : hardRows = true → k < 2 := by decide) : ∃ xs : List α, VRep (sto W) noS noH v (.one (.st (.list (xs.map e0)))) := by
  obtain ⟨a, len, cap, rfl⟩ := okWide_slice ht hv
  obtain ⟨fuel, hf⟩ := h
  obtain ⟨xs, hxs⟩ := list_of_trod ht hc hlen hk (fun n cs y _ hy => f n cs y hy) hf hs
  have : All2 (SRep (sto W)) [.slice a len cap] [.list (xs.map e0)] := hxs
  cases this with
  | cons h1 h2 => exact ⟨xs, .one (.st h1)⟩
end
theorem acalls_true {P : Program} {f : FuncId} {xs : List AV} {b : Bool} (h : ACalls P f xs (aBool b)) {σ : Sto} {w : World} {vs : List Value} (hg : GlobIn σ) (hf : Fit σ w) (hv : All2 (VRep σ noS noH) vs xs) :
    Calls P f vs.toArray w fun e w' => e = .returned (.bool b) ∧ Below w.heap.size w w' := (h σ w vs hg hf hv).mono fun e w' ⟨v, σ', he, hv, _, _, hb⟩ => by
  rw [vrep_bool hv] at he
  exact ⟨he, hb⟩

theorem laid_at {P : Program} {W : World} {x : String × DataW Unit} : ∀ {l : List (String × DataW Unit)} {ps : List MemPlace}, DataW.LaidVars P W l ps → x ∈ l → ∃ q, DataW.LaidVars P W [x] q
  | [], _, _, hx => by simp at hx
  | y :: l, ps, h, hx => by
    obtain ⟨n, d⟩ := y
    obtain ⟨g, t, cs, fuel, p, q, a1, a2, a3, a4, a5, a6⟩ := h
    rcases List.mem_cons.1 hx with rfl | hx
    · exact ⟨_, g, t, cs, fuel, p, [], a1, a2, a3, a4, rfl, rfl⟩
    · exact laid_at a5 hx
theorem size_sto {P : Program} {W : World} {n : String} {g : Nat} {cs : Array Value} (hg : P.globalNamed n = some g) (h : W.var? P n = some cs) : sto W ⟨g, cs.size, some 0⟩ = some .nilFunc := by
  unfold World.var? at h
  rw [hg] at h
  simp only [Option.bind_some] at h
  show look W _ = _
  unfold look
  simp only
  cases hb : W.heap[g]? with
  | none => rw [hb] at h; cases h
  | some o =>
    rw [hb] at h
    cases o <;> simp_all
theorem glob_tab {P : Program} {W : World} {name : String} {g : Nat} {t e : TypeId} {n : Nat} {k : IntKind} {zs : List Int} (hg : P.globalNamed name = some g) (hty : (P.globals[g]?).map (·.type) = some t) (ht : P.underlying t = some (.array n e)) (he : P.underlying e = some (.int k))
    (hce : P.cellsOf e = 1) (hct : P.cellsOf t = n) (hin : ∀ z ∈ zs, inR k z) {ps : List MemPlace} (h : DataW.LaidVars P W [(name, Lib.tabData k zs)] ps) : GlobAt (sto W) (g, zs.map fun z => .int k z) := by
  obtain ⟨g0, t0, cs0, f0, p0, q0, hg0, ht0, hv0, hd0, _, _⟩ := h
  obtain rfl := Option.some.inj (hg.symm.trans hg0)
  obtain rfl := Option.some.inj (hty.symm.trans ht0)
  have hc := Lib.cells_of_tab ht he hce hct hd0
  have hs : cs0.size = zs.length := by
    have := congrArg List.length hc
    simpa using this
  refine ⟨⟨fun j => (zs[j]?).elim .nilFunc (.int k), fun j a ha => ?_, fun j a ha => ?_⟩, ?_⟩
  · rw [List.getElem?_map, Option.map_eq_some_iff] at ha
    obtain ⟨z, hz, rfl⟩ := ha
    have h1 := World.var?_cell hg0 hv0 j
    have h2 : cs0[j]? = some (.int k z) := by
      have h3 := congrArg (fun l : List Value => l[j]?) hc
      simpa [hz] using h3
    show look W _ = _
    rw [look_none rfl, Nat.zero_add, h1, h2]
    simp only [hz, Option.elim]
  · rw [List.getElem?_map, Option.map_eq_some_iff] at ha
    obtain ⟨z, hz, rfl⟩ := ha
    simp only [hz, Option.elim]
    exact .int (hin z (List.mem_of_getElem? hz))
  · have := size_sto hg0 hv0
    rw [hs] at this
    simpa using this
theorem glob_err {P : Program} {W : World} {name nm : String} {d : DataW Unit} {g : Nat} {t : TypeId} {ms : Array (String × TypeId)} (hg : P.globalNamed name = some g) (hty : (P.globals[g]?).map (·.type) = some t) (ht : P.underlying t = some (.interface ms))
    {ps : List MemPlace} (h : DataW.LaidVars P W [(name, .iface nm d)] ps) : GlobAt (sto W) (g, [.err]) := by
  obtain ⟨g0, t0, cs0, f0, p0, q0, hg0, ht0, hv0, hd0, _, _⟩ := h
  obtain rfl := Option.some.inj (hg.symm.trans hg0)
  obtain rfl := Option.some.inj (hty.symm.trans ht0)
  obtain ⟨f1, u, v, hc, _, _⟩ := iface_of_trod ht hd0
  have hs : cs0.size = 1 := by
    have := congrArg List.length hc
    simpa using this
  refine ⟨⟨fun j => .iface u v, fun j a ha => ?_, fun j a ha => ?_⟩, ?_⟩
  · match j, ha with
    | 0, _ =>
      have h1 := World.var?_cell hg0 hv0 0
      have h2 : cs0[0]? = some (.iface u v) := by
        have h3 := congrArg (fun l : List Value => l[0]?) hc
        simpa using h3
      show look W _ = _
      rw [look_none rfl, Nat.zero_add, h1, h2]
    | j + 1, ha => simp at ha
  · match j, ha with
    | 0, ha =>
      cases ha
      exact .err
    | j + 1, ha => simp at ha
  · have := size_sto hg0 hv0
    rw [hs] at this
    simpa using this
theorem in_u64 {zs : List Int} (h : zs.all (fun z => decide (0 ≤ z) && decide (z ≤ 18446744073709551615)) = true) : ∀ z ∈ zs, inR .u64 z := fun z hz => by
  have := List.all_eq_true.1 h z hz
  simp only [Bool.and_eq_true, decide_eq_true_eq] at this
  simp [inR, IntKind.min, IntKind.max, IntKind.signed, IntKind.bits]
  omega
theorem glob_pow {W : World} {ps : List MemPlace} (h : DataW.LaidVars Tryd.prog W [("internal/strconv.uint64pow10", Rows.laid_internal_strconv_uint64pow10)] ps) : GlobAt (sto W) (2, pow10s) := glob_tab (k := .u64) (zs := Lib.pow10Tab) (by kernel_rfl) (by kernel_rfl) Tryd.underlying93 Tryd.underlying73 (by kernel_rfl) (by kernel_rfl) (in_u64 (by decide)) h
theorem glob_syn {W : World} {ps : List MemPlace} (h : DataW.LaidVars Tryd.prog W [("strconv.ErrSyntax", Rows.laid_strconv_ErrSyntax)] ps) : GlobAt (sto W) (0, [.err]) := glob_err (by kernel_rfl) (by kernel_rfl) Tryd.underlying58 h

section
variable {H : Type} {enc : TypeId × Value → H} {W : World} {sp : Nat → Bool} {hd : Bool} {base : Nat}
theorem arg_strs {r : Reach} {b0 : Nat} {v : Value} {d : DataW H} {p : List MemPlace} (hv : Value.okWide Tryd.prog W r b0 22 v) (h : DataW.Trod enc Tryd.prog W base sp hd 22 v d p) : ∃ l : List ByteArray, VRep (sto W) noS noH v (aStrs l) :=
  arg_list (k := 1) Tryd.underlying22 (by kernel_rfl) (fun _ => rfl) (by decide) hv (str_trod Tryd.underlying9) h
end

end Go.Proofs.YtgpaahlkjibihaaDoor
namespace Go.Proofs.YtgpaahlkjibihaaDoor.lambdaParses
open Go Go.RowKit Go.ChangeShapes Go.WideShapes Go.ChangeAt
set_option linter.unusedVariables false
theorem globIn5 {W : World} (h : laidMetH Tryd.prog Rows.lambdaParsesRow.laid W) : GlobIn (sto W) := by
  rw [MakeChecks.laidMetH_plain _ _ _ (by kernel_rfl)] at h
  obtain ⟨ps, h, _, _⟩ := h
  obtain ⟨_, h1⟩ := laid_at (x := ("internal/strconv.uint64pow10", Rows.laid_internal_strconv_uint64pow10)) h (by simp [Rows.lambdaParsesRow])
  obtain ⟨_, h2⟩ := laid_at (x := ("strconv.ErrSyntax", Rows.laid_strconv_ErrSyntax)) h (by simp [Rows.lambdaParsesRow])
  intro y hy
  simp only [globs, List.mem_cons, List.not_mem_nil, or_false] at hy
  rcases hy with rfl | rfl
  · exact glob_pow h1
  · exact glob_syn h2
theorem own : ownKnob Tryd.prog.godebug = none := by kernel_rfl
theorem laid : laidOutB Tryd.prog = true := by kernel_rfl
set_option maxRecDepth 100000 in
theorem contract (H : Type) (enc : TypeId × Value → H) (W : World) (base : Nat) (args : Array Value) (ds gs : List (DataW H)) (before : List MemPlace) (hL : laidMetH Tryd.prog Rows.lambdaParsesRow.laid W)
    (hval : ∀ (j : Nat) t v, Tryd.f3.params[j]? = some t → args[j]? = some v → Value.okWide Tryd.prog W .any base t v)
    (hW : DataW.Whole enc Tryd.prog Tryd.f3.params.toList Rows.lambdaParsesSpec.vars false W args.toList ds gs before) :
    Calls Tryd.prog 3 args W fun e W' => ∃ v, e = .returned v ∧ Rows.lambdaParsesSpec.post enc Tryd.prog Tryd.f3 false true false false W args v W' := by
  have hG := globIn5 hL
  obtain ⟨p, q, hA0, hV, rfl, hfz, hnd⟩ := id hW
  obtain ⟨rfl, rfl⟩ := trodVars_none hV
  have hA : DataW.TrodAll enc Tryd.prog W 0 (fun _ => true) true Tryd.f3.params.toList args.toList ds p := hA0
  rw [Tryd.params3] at hA hval
  obtain ⟨v0, v1, d0, d1, p0, p1, hargs, rfl, rfl, h0, h1⟩ := trodAll_two hA
  obtain rfl : args = #[v0, v1] := by cases args; simp_all
  obtain ⟨s, r0⟩ := arg_str Tryd.underlying9 (hval 0 9 v0 rfl rfl) h0
  obtain ⟨l, r1⟩ := arg_strs (hval 1 22 v1 rfl rfl) h1
  refine (acalls_true (lambdaParses_a s l) hG (fit_sto W) (vs := [v0, v1]) (.cons r0 (.cons r1 .nil))).mono fun e W' ⟨he, hb⟩ => ⟨_, he, ?_⟩
  exact law_post hW rfl rfl Tryd.underlying4 rfl rfl rfl laid (by kernel_rfl) hb
theorem door_met (os : Os) (args : Array Value) : laidMetH Tryd.prog Rows.lambdaParsesRow.laid ((World.doorLaid Tryd.prog 400 os).forCall (fun _ _ => 0) ⟨#[], args, []⟩).memory :=
  laidMetH_of_parts3 (fuel := 8) (laidMet_of_run' 8 (by kernel_rfl) (by kernel_rfl)) (by kernel_rfl) (by kernel_rfl)
set_option maxRecDepth 100000 in
theorem lifted (os : Os) (started : os.Started) (H : Type) (enc : TypeId × Value → H) :
    ReturnsInHanded {} Tryd.checked os 3 .any (fun w args => (Rows.lambdaParsesSpec.pre enc Tryd.prog Tryd.f3 [] false w args ∧ laidMetH Tryd.prog Rows.lambdaParsesRow.laid w) ∧ sizedMet enc Tryd.prog Tryd.f3 (OpenSpec.ofChange Rows.lambdaParsesSpec) false w args)
      (Rows.lambdaParsesSpec.post enc Tryd.prog Tryd.f3 false true false false) := by
  refine returnsInHanded_of_change_and (C := Tryd.checked) (X := fun w _ => laidMetH Tryd.prog Rows.lambdaParsesRow.laid w) (fun _ _ _ hh h => h.of_heap hh) own started (by kernel_rfl) Tryd.func3
    (ChangeSpec.witness_shaped (enc := enc) (C := Tryd.checked) (os := os) (X := fun w _ => laidMetH Tryd.prog Rows.lambdaParsesRow.laid w) false (World.doorLaid Tryd.prog 400 os) #[.string .empty, .slice none 0 0] 8 rfl (World.shaped_of_RefB (by kernel_rfl) (by kernel_rfl)) (by kernel_rfl) (by kernel_rfl) (by kernel_rfl) (door_met os _)) ?_
  intro W base args ds gs before hval hW _ _ hL _
  exact contract H enc W base args ds gs before hL hval hW
theorem row_holds : Rows.LambdaParsesSaid :=
  OpenClaim.holds_of_wide 3 Tryd.f3 rfl rfl rfl rfl rfl rfl rfl ⟨rfl, rfl, rfl, rfl, rfl⟩ rfl rfl rfl rfl rfl (by kernel_rfl) Tryd.func3 (by kernel_rfl)
    (of_decide_eq_true (by kernel_rfl)) (by unfold Func.isWrapper; first | (rw [if_pos (by decide +kernel)]; kernel_rfl) | (rw [if_neg (by decide +kernel)]; exact ⟨rfl, rfl⟩))
    (fun os started H enc _ => lifted os started H enc)
theorem no_stand : (Tryd.f3.params.toList.all fun t => !Tryd.prog.wantsStandIn t) = true := by kernel_rfl
theorem proved : Rows.LambdaParsesCardSaid :=
  Claim7.holds_tied_plain_at .later [] [.data, .data, .data, .sentinel, .sentinel] true Rows.lambdaParsesCard.stood.harness Rows.lambdaParsesCard.stood.looks
    row_holds (fun _ h => by cases h) (by kernel_rfl) (fun _ h => by cases h) lambdaParses_row_tie rfl ⟨rfl, rfl⟩ (by kernel_rfl) rfl
    (fun f fn hf hfn => by
      obtain rfl : f = 3 := Option.some.inj ((show Tryd.prog.funcNamed "metaprune/metaprunelaw.LambdaParses" = some 3 by kernel_rfl).symm.trans hf) |>.symm
      obtain rfl : fn = Tryd.f3 := (Option.some.inj (Tryd.func3.symm.trans hfn)).symm
      exact ⟨by kernel_rfl, fun j t ht => by
        have h1 := List.all_eq_true.1 no_stand t (by rw [Array.mem_toList_iff]; exact Array.mem_of_getElem? ht)
        have h2 : Tryd.prog.wantsStandIn t = false := by simpa using h1
        exact h2⟩)
    (by kernel_rfl)

end Go.Proofs.YtgpaahlkjibihaaDoor.lambdaParses
