/-
  Part 7 of the texts: BLRead2; BLRead3; IrTo; IrCon; BCon; BTo; BLRead4; BLRead5; BLRead6; IrLRef; BTo2; BLRef. Conditions: none.
-/
import Derived.Test.YtgpaahlkjibihaaDoorLaP6
namespace Go.Proofs.YtgpaahlkjibihaaDoor
open Go Go.RowKit
set_option linter.unusedVariables false
set_option linter.unusedSimpArgs false
set_option maxHeartbeats 1000000
theorem hi_ne {b c : Nat} (hb : 1000 ≤ b) (hc : c < 1000) : (b = c) = False := eq_false (by omega)
theorem lo_ne {b c : Nat} (hb : 1000 ≤ b) (hc : c < 1000) : (c = b) = False := eq_false (by omega)
abbrev rowL (xs : List ByteArray) : ABlk := .mrow 9 1 (xs.map encS)
abbrev boxV (i : Int) : ABlk := .box 25 [.st (.int .i64 1), .st (.int .i64 i), .st (.list [])]
def ir_pieceLoop2 : IR := (.rangeF (.t 33) [34, 35] (.seq (.ops [.m 5 34]) (.ops [.m 6 35])) (.block 1 (.seq (.ops [.m 36 6, .l 37 4, .i 38 (.bin .eql (.t 36) (.t 37))]) (.cond (.t 38) (.seq (.ops [.l 39 1, .i 40 (.nilCheck (.t 39)), .f 41 1 40, .l 42 41, .i 43 (.len false (.t 42)), .i 44 (.bin .sub (.t 43) (.n 1)), .m 45 5, .i 46 (.bin .sub (.t 44) (.t 45)), .i 47 (.call 35 [.t 46]), .s 3 2 47]) .ret) .skip))))
set_option maxRecDepth 100000 in
theorem pieceLoop2 {C : Ctx} {Q : AX → AS → Prop} (htop : C.Top) (hC : C.n = 75) (names : List ByteArray) (hl : names.length ≤ 1000000) (nm : ByteArray) (b id : Nat) (hb : 1000 ≤ b) (u : ByteArray) (l : Int) (ty : TypeId) (env : Nat → AV) (S : AStore)
    (v1 : env 1 = .one (.ptr 1 1 0 0)) (v2 : env 2 = .one (.ptr 2 1 0 0)) (v4 : env 4 = .one (.ptr 4 1 0 0)) (v33 : env 33 = .one (.fn 43 [.ptr 900 1 0 0])) {e1 : TypeId} (s1 : S 1 = some (.box e1 [.ptr b 1 0 0])) {cs : List AC} (hcs : cs.length = 3) (s2 : S 2 = some (.box 25 cs)) (s4 : S 4 = some (.box 9 [.st (.str nm)])) (s900 : S 900 = some (.box ty [.row id names.length])) (sid : S id = some (rowL names)) (sb : S b = some (boxL u (.row id names.length) l)) (s901 : S 901 = none)
    (hdone : boundAt names nm = none → Q .normal ⟨env, updE S 901 (some (.dead 1 0))⟩) (hret : ∀ k : Nat, boundAt names nm = some k → Q .ret ⟨env, updE (updE S 2 (some (boxV ((names.length : Int) - 1 - k)))) 901 (some (.dead 1 0))⟩) : IWP Tryd.prog C [10, 21, 23, 26, 28, 33] ir_pieceLoop2 Q ⟨env, S⟩ := by
  unfold ir_pieceLoop2
  refine IWP.rangeF htop 901 (by decide) s901 (show AS.ev _ (.t 33) = _ from v33) (by kernel_rfl) (back_iterM names (by omega) (up1 900) (up1 id) ty 9 (up1_le _) (up1_le _)) (fun _ => rfl) (fun pre U => U = upS S ∧ ∀ i ∈ pre, names.getD i .empty ≠ nm) (fun ex U => ex = .ret ∧ ∃ k : Nat, boundAt names nm = some k ∧ U = updE (upS S) 1002 (some (boxV ((names.length : Int) - 1 - k)))) ⟨rfl, by simp⟩ ?_ ?_ ?_ ?_
  · rintro pre U b ⟨rfl, _⟩ hU
    have n1 : up1 900 ≠ up1 901 := by decide
    have n2 : up1 id ≠ up1 901 := fun h => by
      have : id = 901 := by unfold up1 at h; omega
      subst this
      rw [sid] at s901
      cases s901
    rw [updE_ne _ n1, updE_ne _ n2, upS_up, upS_up, s900, sid]
    exact ⟨rfl, rfl⟩
  · rintro C' b0 b1 pre v U hC' hpre ⟨rfl, hI⟩ hU hcl hb1
    have t1 : upS S 1001 = some (.box e1 [.ptr (up1 b) 1 0 0]) := upS_some s1
    have t2 : upS S 1002 = some (.box 25 (cs.map (AC.ren up1))) := by
      have := upS_some (S := S) (i := 2) s2
      rw [show up1 2 = 1002 from rfl] at this
      rw [this]
      show some (ABlk.box _ (AC.rens up1 cs)) = _
      rw [AC.rens_eq]
    have t4 : upS S 1004 = some (.box 9 [.st (.str nm)]) := upS_some s4
    have tb : upS S (up1 b) = some (boxL u (.row (up1 id) names.length) l) := upS_some sb
    have ti : upS S (up1 id) = some (rowL names) := upS_some sid
    have w1 : upEnv C.n env 1 = .one (.ptr 1001 1 0 0) := by rw [upEnv, if_pos (by omega), v1]; rfl
    have w2 : upEnv C.n env 2 = .one (.ptr 1002 1 0 0) := by rw [upEnv, if_pos (by omega), v2]; rfl
    have w4 : upEnv C.n env 4 = .one (.ptr 1004 1 0 0) := by rw [upEnv, if_pos (by omega), v4]; rfl
    have u901 : up1 901 = 1901 := rfl
    have n2b : ¬ 1901 = up1 b := by unfold up1; omega
    have n2i : ¬ 1901 = up1 id := fun h => by
      have : id = 901 := by unfold up1 at h; omega
      subst this
      rw [sid] at s901
      cases s901
    have n3b : ¬ up1 b = 1901 := fun h => n2b h.symm
    have n3i : ¬ up1 id = 1901 := fun h => n2i h.symm
    have hll : (names.map encS).length = names.length := by simp
    obtain ⟨tl, htl⟩ := hpre
    have hdn : downTo names.length 0 = (List.range names.length).reverse := by unfold downTo; rw [List.range_eq_range']; rfl
    have hrev : (List.range names.length) = tl.reverse ++ [v] ++ pre.reverse := by
      have := congrArg List.reverse htl
      rw [hdn, List.reverse_reverse] at this
      rw [← this]
      simp
    have v0 : v < names.length := by
      have : v ∈ List.range names.length := by rw [hrev]; simp
      simpa using this
    have hpos : ∀ j, v < j → j < names.length → j ∈ pre := fun j h1 h2 => by
      have hlen := congrArg List.length hrev
      simp at hlen
      have hv : (List.range names.length)[tl.length]? = some v := by rw [hrev]; simp
      have hv' : tl.length = v := by
        rw [List.getElem?_range (by omega)] at hv
        injection hv
      have hj : (List.range names.length)[j]? = some j := by rw [List.getElem?_range h2]
      rw [hrev, List.append_assoc, List.getElem?_append_right (by simp; omega), List.getElem?_append_right (by simp; omega)] at hj
      have := List.mem_of_getElem? hj
      simpa using this
    have hget : names[v]? = some (names.getD v .empty) := by simp [List.getD, List.getElem?_eq_getElem v0]
    have hgd : ∀ x, names.getD v .empty = x → names.getD v .empty = x := fun _ h => h
    generalize hx0 : names.getD v .empty = x at hget
    repeat' (first | (with_reducible first | refine W ?_ | refine Wz0 ?_) | ((with_reducible first | refine Wo (fun K hK => ?_) | refine Wp ?_ | refine Wq ?_ | refine Wr ?_); (try simp only [go_sem, fN, seval, eT, iR, setPs, w4, t4, dT, dF, nL]); (repeat with_reducible refine Ai ?_); (try (refine hK _ ?_; clear hK K)); (try with_reducible refine iC ?_)))
    refine then_normal ⟨show updE (upS S) (up1 901) (some b0) (up1 901) = _ from updE_same _ _ _, ?_⟩
    have hhigh : Clean (updE (upS S) (up1 901) (some b1)) := clean_upd hcl (up1_le _) hb1
    by_cases hx : x = nm
    · have hbd : boundAt names nm = some v := backF_some (by rw [decide_eq_true_eq, hx0, hx]) v0 fun j h1 h2 => by
        rw [decide_eq_true_eq]
        exact hI j (hpos j h1 h2)
      repeat' (first | (with_reducible first | refine W ?_ | refine Wz0 ?_) | refine Cg _ (lV_a ((names.length : Int) - 1 - v)) ?_ | ((with_reducible first | refine Wo (fun K hK => ?_) | refine Wp ?_ | refine Wq ?_ | refine Wr ?_); (try simp only [go_sem, fN, seval, eT, iR, w1, w2, w4, t1, t2, t4, tb, ti, n2b, n2i, n3b, n3i, hll, u901, hx, hcs, AS.set, dT, dF, nL]); (repeat with_reducible refine Ai ?_); (try (refine hK _ ?_; clear hK K)); (try with_reducible refine iC ?_)))
      have hd : List.drop 3 (List.map (AC.ren up1) cs) = [] := List.drop_eq_nil_of_le (by simp [hcs])
      rw [hd]
      refine ⟨_, updE (upS S) 1002 (some (boxV ((names.length : Int) - 1 - v))), Ghost.refl _ _, ?_, ?_, ?_, rfl, v, hbd, rfl⟩
      · show updE (updE (updE (upS S) 1901 (some b0)) 1901 (some b1)) 1002 _ = _
        rw [updE_over, updE_swap (by decide)]
      · show Clean (updE (updE (updE (upS S) 1901 (some b0)) 1901 (some b1)) 1002 _)
        rw [updE_over]
        exact clean_upd hhigh (by decide) rfl
      · rw [updE_ne _ (by decide)]
        exact hU
    · repeat' (first | (with_reducible first | refine W ?_ | refine Wz0 ?_) | ((with_reducible first | refine Wo (fun K hK => ?_) | refine Wp ?_ | refine Wq ?_ | refine Wr ?_); (try simp only [go_sem, fN, seval, eT, iR, w4, t4, u901, hx, AS.set, dT, dF, nL]); (repeat with_reducible refine Ai ?_); (try (refine hK _ ?_; clear hK K)); (try with_reducible refine iC ?_)))
      refine ⟨_, upS S, Ghost.refl _ _, by simp only [AS.set, updE_over, u901], by simpa only [AS.set, updE_over, u901] using hhigh, by rw [← u901]; exact hU, rfl, fun i hi => ?_⟩
      rcases List.mem_append.1 hi with hi | hi
      · exact hI i hi
      · rw [List.mem_singleton.1 hi, hx0]
        exact hx
  · rintro U ⟨rfl, h⟩
    rw [dn_upS]
    refine hdone (backF_none fun j hj => ?_)
    rw [decide_eq_true_eq]
    exact h j (by simp [downTo]; exact hj)
  · rintro ex U ⟨rfl, k, hk, rfl⟩
    rw [show (1002 : Nat) = up1 2 from rfl, dnS_upd, dn_upS]
    exact hret k hk

theorem lend_tail (s : ByteArray) (i : Nat) : ∀ k j : Nat, i + j + k ≤ s.size → lend (tailS s i) k j + i = lend s k (i + j)
  | 0, j, _ => by rw [lend, lend]; omega
  | k + 1, j, h => by
    rw [lend, lend]
    have hb : byteAt (tailS s i) j = byteAt s (i + j) := byteN_tail (by omega)
    rw [hb]
    by_cases hl : letterI (byteAt s (i + j)) = true
    · rw [if_pos hl, if_pos hl, lend_tail s i k (j + 1) (by omega)]
      rfl
    · rw [if_neg hl, if_neg hl]
      omega
theorem lendA_tail {s : ByteArray} {i : Nat} (hi : i ≤ s.size) : lendA (tailS s i) 0 = lendA s i - i := by
  have h := lend_tail s i (s.size - i) 0 (by omega)
  unfold lendA
  rw [tail_size, Nat.sub_zero]
  rw [Nat.add_zero] at h
  omega
theorem nm_tail {s : ByteArray} {i : Nat} (hi : i ≤ s.size) : (tailS s i).extract 0 (lendA (tailS s i) 0) = nmAt s i := by
  obtain ⟨l1, l2⟩ := lendA_le hi
  rw [lendA_tail hi, tail_take (by omega)]
  unfold nmAt
  congr 1
  omega
theorem rest_tail {s : ByteArray} {i : Nat} (hi : i ≤ s.size) : (tailS s i).extract (lendA (tailS s i) 0) (tailS s i).size = tailS s (lendA s i) := by
  obtain ⟨l1, l2⟩ := lendA_le hi
  rw [lendA_tail hi, tail_drop (by omega)]
  congr 1
  omega
theorem ltail_nil {s : ByteArray} {i : Nat} (hi : i ≤ s.size) : tailS s i = ⟨#[]⟩ ↔ i = s.size := by
  constructor
  · intro h
    have := tail_size s i
    rw [h] at this
    have h0 : (⟨#[]⟩ : ByteArray).size = 0 := rfl
    omega
  · intro h
    have := tail_size s i
    exact ByteArray.size_eq_zero_iff.1 (by omega)
theorem ahead_tail (s : ByteArray) (i : Nat) : aheadL (tailS s i) = if i < s.size then byteAt s i else 0 := by
  unfold aheadL
  rw [tail_size]
  by_cases h : i < s.size
  · rw [if_neg (by omega), if_pos h, byteN_tail (by omega), Nat.add_zero]
  · rw [if_pos (by omega), if_neg h]
theorem ahead_yes {s : ByteArray} {i : Nat} {c : Int} (h : i < s.size ∧ byteAt s i = c) : aheadL (tailS s i) = c := by
  rw [ahead_tail, if_pos h.1, h.2]
theorem ahead_no {s : ByteArray} {i : Nat} {c : Int} (hc : c ≠ 0) (h : ¬ (i < s.size ∧ byteAt s i = c)) : ¬ aheadL (tailS s i) = c := by
  rw [ahead_tail]
  by_cases h1 : i < s.size
  · rw [if_pos h1]
    exact fun e => h ⟨h1, e⟩
  · rw [if_neg h1]
    exact fun e => hc e.symm
section
variable {s : ByteArray} {nm : AC} {l : Int} {b at_ : Nat} {S : AStore}
theorem lnext_at (hb : 1000 ≤ b) (sb : S b = some (boxL (tailS s at_) nm l)) : ACallsS Tryd.prog 16 [.one (.ptr b 1 0 0)] S (.one (.st (.int .u8 (aheadL (tailS s at_))))) S := lnext_S hb sb
theorem lname_at (hs : s.size ≤ 100000) (hat : at_ ≤ s.size) (hb : 1000 ≤ b) (hnm : nm.high = true) (sb : S b = some (boxL (tailS s at_) nm l)) (h : nmErr s at_ = 0) : ACallsS Tryd.prog 18 [.one (.ptr b 1 0 0)] S (aStr (nmAt s at_)) (updE S b (some (boxL (tailS s (lendA s at_)) nm l))) := by
  have hz := tail_size s at_
  obtain ⟨n1, n2⟩ := (nmErr_ok hat).2.2.2 h
  have := lname_S (u := tailS s at_) (by omega) hb hnm sb (by rw [lendA_tail hat]; omega) (by rw [nm_tail hat]; exact n2)
  rw [nm_tail hat, rest_tail hat] at this
  exact this
theorem lname_pan (hs : s.size ≤ 100000) (hat : at_ ≤ s.size) (hb : 1000 ≤ b) (sb : S b = some (boxL (tailS s at_) nm l)) (h : ¬ nmErr s at_ = 0) : APan Tryd.prog 18 [.one (.ptr b 1 0 0)] S (lfault (nmErr s at_)) (updE S b (some (.dead 1 0))) := by
  have hz := tail_size s at_
  obtain ⟨l1, l2⟩ := lendA_le hat
  refine lname_P (u := tailS s at_) _ (by omega) hb sb ?_
  rw [nm_tail hat, lendA_tail hat]
  unfold nmErr at h ⊢
  by_cases h0 : lendA s at_ = at_
  · rw [if_pos h0] at h ⊢
    by_cases h1 : at_ = s.size
    · rw [if_pos h1]
      exact .inl ⟨by omega, (ltail_nil hat).2 h1, rfl⟩
    · rw [if_neg h1]
      exact .inr (.inl ⟨by omega, fun e => h1 ((ltail_nil hat).1 e), rfl⟩)
  · rw [if_neg h0] at h ⊢
    by_cases h1 : nameOk (nmAt s at_) = true
    · rw [if_pos h1] at h
      exact absurd rfl h
    · rw [if_neg h1]
      exact .inr (.inr ⟨by omega, h1, rfl⟩)
theorem lsign_at {c : Int} (hat : at_ ≤ s.size) (hb : 1000 ≤ b) (hnm : nm.high = true) (sb : S b = some (boxL (tailS s at_) nm l)) (h : wantE s c at_ = 0) : ACallsS Tryd.prog 19 [.one (.ptr b 1 0 0), .one (.st (.int .u8 c))] S (.tup []) (updE S b (some (boxL (tailS s (at_ + 1)) nm l))) := by
  obtain ⟨h1, h2⟩ := (wantE_ok hat).2 h
  have hz := tail_size s at_
  have := lsign_S (u := tailS s at_) c hb hnm sb (by omega) (by rw [byteN_tail (by omega)]; exact h2)
  rw [tail_drop (by omega)] at this
  exact this
theorem lsign_pan {c : Int} (hat : at_ ≤ s.size) (hb : 1000 ≤ b) (sb : S b = some (boxL (tailS s at_) nm l)) (h : ¬ wantE s c at_ = 0) : APan Tryd.prog 19 [.one (.ptr b 1 0 0), .one (.st (.int .u8 c))] S (lfault (wantE s c at_)) (updE S b (some (.dead 1 0))) := by
  have hz := tail_size s at_
  unfold wantE at h ⊢
  by_cases h0 : at_ = s.size
  · rw [if_pos h0]
    exact lsign_P1 (u := tailS s at_) c hb sb ((ltail_nil hat).2 h0)
  · rw [if_neg h0] at h ⊢
    by_cases h1 : byteAt s at_ = c
    · rw [if_pos h1] at h
      exact absurd rfl h
    · rw [if_neg h1]
      exact lsign_P2 (u := tailS s at_) c hb sb (by omega) (by rw [byteN_tail (by omega)]; exact h1)
end
theorem up_boxL {S : AStore} {b i n : Nat} {u : ByteArray} {l : Int} (h : S b = some (boxL u (.row i n) l)) : upS S (up1 b) = some (boxL u (.row (up1 i) n) l) := upS_some h
theorem up_rowL {S : AStore} {i : Nat} {ns : List ByteArray} (h : S i = some (rowL ns)) : upS S (up1 i) = some (rowL ns) := upS_some h
theorem up_none {S : AStore} {i : Nat} (h : S i = none) : upS S (up1 i) = none := by rw [upS_up, h]; rfl
def ldone (S : AStore) (b i ni N : Nat) (ns : List ByteArray) (u : ByteArray) (l : Int) : AStore := updE (updE (updE S i (some (.dead N 1))) ni (some (rowL ns))) b (some (boxL u (.row ni ns.length) l))
def lfail (S : AStore) (b i N : Nat) : AStore := updE (updE S i (some (.dead N 1))) b (some (.dead 1 0))
theorem dn_ldone {S : AStore} {b i ni N : Nat} {ns : List ByteArray} {u : ByteArray} {l : Int} : dnS (ldone (upS S) (up1 b) (up1 i) (up1 ni) N ns u l) = ldone S b i ni N ns u l := by
  unfold ldone
  rw [dnS_upd, dnS_upd, dnS_upd, dn_upS]
  show updE _ b (some (ABlk.box _ [_, AC.row (dn1 (up1 ni)) _, _])) = _
  rw [dn_up]
  rfl
theorem dn_lfail {S : AStore} {b i N : Nat} : dnS (lfail (upS S) (up1 b) (up1 i) N) = lfail S b i N := by
  unfold lfail
  rw [dnS_upd, dnS_upd, dn_upS]
  rfl
def LEnd (t : Lm) (S' : AStore) (x : AS) : Prop := ∃ r0, (resAll x [RV.cell 2 true 3]).map tupV = some r0 ∧ outV x.S r0 = some (aLm t) ∧ ∀ i, 1000 ≤ i → x.S i = S' i
def LRS (f : Nat) (q : LRd) (S S1 S2 : AStore) (b : Nat) : Prop :=
  (q.e = 0 → ACallsS Tryd.prog f [.one (.ptr b 1 0 0)] S (aLm q.t) S1) ∧ (q.e ≠ 0 → APan Tryd.prog f [.one (.ptr b 1 0 0)] S (lfault q.e) S2)
theorem lrs_of {f n : Nat} {mu : List Nat} {x : IR} (o : OkF Tryd.prog f n mu x [.cell 2 true 3]) (hn : 1 ≤ n) {q : LRd} {S S1 S2 : AStore} {b : Nat} (h1 : Clean S → Clean S1) (h2 : Clean S → Clean S2)
    (h : Clean S → ∀ (C : Ctx) (Q : AX → AS → Prop), C.n = n → C.Top → (q.e = 0 → ∀ x y, Ghost C x y → LEnd q.t S1 y → Q .ret x) → (q.e ≠ 0 → ∀ x y, Ghost C x y → (∀ i, 1000 ≤ i → y.S i = S2 i) → Q (.pan (lfault q.e)) x) → IWP Tryd.prog C mu x Q (AS.startS [.one (.ptr b 1 0 0)] S)) : LRS f q S S1 S2 b := by
  refine ⟨fun he => ?_, fun he => ?_⟩
  · refine o.acST (fun hS C hC ht => h hS C _ hC ht (fun _ x y hg hx => ?_) (fun hne => absurd he hne)) hn
    obtain ⟨r0, q1, q2, q3⟩ := hx
    exact finS_ghost hg (finS_same r0 (h1 hS) trivial q1 q2 q3)
  · refine o.acPT (fun hS C hC ht => h hS C _ hC ht (fun h0 => absurd h0 he) (fun _ x y hg hx => ?_)) hn
    have hc := h2 hS
    refine ⟨rfl, _, hg.trans (Ghost.low fun i c hi hc' => ?_), ?_, hc⟩
    · rw [hx i hi] at hc'
      exact (hc i c hc').2
    · funext i
      show (if i < 1000 then none else y.S i) = _
      split
      · exact (clean_none hc (by omega)).symm
      · exact hx i (by omega)
theorem clean_ldone {S : AStore} {b i ni N : Nat} {ns : List ByteArray} {u : ByteArray} {l : Int} (hb : 1000 ≤ b) (hi : 1000 ≤ i) (hn : 1000 ≤ ni) (hS : Clean S) : Clean (ldone S b i ni N ns u l) :=
  clean_upd (clean_upd (clean_upd hS hi rfl) hn rfl) hb (boxL_high (high_row hn))
theorem clean_lfail {S : AStore} {b i N : Nat} (hb : 1000 ≤ b) (hi : 1000 ≤ i) (hS : Clean S) : Clean (lfail S b i N) := clean_upd (clean_upd hS hi rfl) hb rfl
theorem lpanEnd {C : Ctx} {x : AS} {S : AStore} {b i N : Nat} (hne : b ≠ i) (h1 : (∃ ty xs, x.S b = some (.box ty xs)) ∨ x.S b = some (.dead 1 0)) (h2 : (∃ xs, x.S i = some (rowL xs) ∧ xs.length < N) ∨ x.S i = some (.dead N 1)) (h3 : ∀ j, 1000 ≤ j → j ≠ b → j ≠ i → x.S j = S j) : ∃ y, Ghost C x y ∧ ∀ j, 1000 ≤ j → y.S j = lfail S b i N j := by
  obtain ⟨y, hg, hy1, hy2⟩ : ∃ y : AS, Ghost C x y ∧ y.S b = some (.dead 1 0) ∧ ∀ j, j ≠ b → y.S j = x.S j := by
    rcases h1 with ⟨ty, xs, h1⟩ | h1
    · exact ⟨_, Ghost.kill b h1, updE_same _ _ _, fun j hj => updE_ne _ hj _⟩
    · exact ⟨x, Ghost.refl _ _, h1, fun _ _ => rfl⟩
  obtain ⟨z, hg2, hz1, hz2⟩ : ∃ z : AS, Ghost C y z ∧ z.S i = some (.dead N 1) ∧ ∀ j, j ≠ i → z.S j = y.S j := by
    have hyi := hy2 i (fun e => hne e.symm)
    rcases h2 with ⟨xs, h2, hl⟩ | h2
    · exact ⟨_, Ghost.bury i N 1 (hyi.trans h2) ⟨by simpa using hl, rfl⟩, updE_same _ _ _, fun j hj => updE_ne _ hj _⟩
    · exact ⟨y, Ghost.refl _ _, hyi.trans h2, fun _ _ => rfl⟩
  refine ⟨z, hg.trans hg2, fun j hj => ?_⟩
  unfold lfail
  by_cases e1 : j = b
  · subst e1
    rw [hz2 _ hne, hy1, updE_same]
  · rw [updE_ne _ e1]
    by_cases e2 : j = i
    · subst e2
      rw [hz1, updE_same]
    · rw [updE_ne _ e2, hz2 _ e2, hy2 _ e1, h3 j hj e1 e2]
theorem pan_to {C : Ctx} {Q : AX → AS → Prop} {v : Value} {S : AStore} {b i N : Nat} (hne : ¬ b = i) (hpan : ∀ x y, Ghost C x y → (∀ j, 1000 ≤ j → y.S j = lfail S b i N j) → Q (.pan v) x) (x : AS) (h1 : (∃ ty xs, x.S b = some (.box ty xs)) ∨ x.S b = some (.dead 1 0)) (h2 : (∃ xs, x.S i = some (rowL xs) ∧ xs.length < N) ∨ x.S i = some (.dead N 1)) (h3 : ∀ j, 1000 ≤ j → j ≠ b → j ≠ i → x.S j = S j) : Q (.pan v) x := by
  obtain ⟨y, hg, hy⟩ := lpanEnd (C := C) hne h1 h2 h3
  exact hpan x y hg hy
theorem lnameEnd {C : Ctx} {x : AS} {S : AStore} {b i j ni N : Nat} {ns xs : List ByteArray} {u : ByteArray} {l : Int} {c : AC} (hb : x.S b = some (boxL u c l)) (hj : x.S j = some (rowL xs)) (hN : xs.length < N) (hc : c = .part j ns.length xs.length ∨ (c = .row j ns.length ∧ ns.length = xs.length)) (hx : xs.take ns.length = ns) (hni : x.S ni = none) (hbn : b ≠ ni) (h1000 : 1000 ≤ ni)
    (hi : (j = i) ∨ (j < 1000 ∧ x.S i = some (.dead N 1) ∧ i ≠ ni ∧ i ≠ b)) (h3 : ∀ j, 1000 ≤ j → j ≠ b → j ≠ i → x.S j = S j) : ∃ y : AS, y.env = x.env ∧ Ghost C x y ∧ (∀ k, k ≠ b → k ≠ ni → k ≠ j → y.S k = x.S k) ∧ ∀ k, 1000 ≤ k → y.S k = ldone S b i ni N ns u l k := by
  have hjb : b ≠ j := fun e => by subst e; rw [hb] at hj; cases hj
  have hjn : j ≠ ni := fun e => by subst e; rw [hj] at hni; cases hni
  have hg := Ghost.rebase (C := C) (s := x) b j ni 1 ns.length N (xs := xs.map encS) (by simpa using hN) hb hj hni (by
    rw [List.length_map]
    rcases hc with rfl | ⟨rfl, h⟩
    · exact .inl rfl
    · exact .inr ⟨rfl, h⟩)
  refine ⟨_, ?he, hg, fun k k1 k2 k3 => ?_, fun k hk => ?_⟩
  case he => rfl
  · show updE (updE (updE x.S j _) ni _) b _ k = _
    rw [updE_ne _ k1, updE_ne _ k2, updE_ne _ k3]
  show updE (updE (updE x.S j (some (.dead N 1))) ni (some (ABlk.mrow _ 1 ((xs.map encS).take ns.length)))) b (some (ABlk.box _ ([_, c, _].set 1 (.row ni ns.length)))) k = _
  rw [← List.map_take, hx]
  unfold ldone
  by_cases e1 : k = b
  · subst e1
    rw [updE_same, updE_same]
    rfl
  rw [updE_ne _ e1, updE_ne _ e1]
  by_cases e2 : k = ni
  · subst e2
    rw [updE_same, updE_same]
  rw [updE_ne _ e2, updE_ne _ e2]
  rcases hi with rfl | ⟨q1, q2, q3, q4⟩
  · by_cases e3 : k = j
    · subst e3
      rw [updE_same, updE_same]
    · rw [updE_ne _ e3, updE_ne _ e3, h3 k hk e1 e3]
  · rw [updE_ne _ (show k ≠ j by omega)]
    by_cases e3 : k = i
    · subst e3
      rw [updE_same, q2]
    · rw [updE_ne _ e3, h3 k hk e1 e3]
theorem lend_to {C : Ctx} {Q : AX → AS → Prop} {S : AStore} {b i ni N : Nat} {ns : List ByteArray} {u : ByteArray} {l : Int} {t : Lm} (hok : ∀ x y, Ghost C x y → LEnd t (ldone S b i ni N ns u l) y → Q .ret x) (x : AS) (j : Nat) (xs : List ByteArray) (c : AC) (h2 : x.env 2 = .one (.ptr 2 1 0 0)) (s2 : x.S 2 = some (.box 25 [.st (.int .i64 t.kind), .st (.int .i64 t.idx), .st (.list (t.subs.map encL))]))
    (hb : x.S b = some (boxL u c l)) (hj : x.S j = some (rowL xs)) (hN : xs.length < N) (hc : c = .part j ns.length xs.length ∨ (c = .row j ns.length ∧ ns.length = xs.length)) (hx : xs.take ns.length = ns) (hni : x.S ni = none) (hbn : b ≠ ni) (h1000 : 1000 ≤ ni) (hb1000 : 1000 ≤ b)
    (hi : (j = i) ∨ (j < 1000 ∧ x.S i = some (.dead N 1) ∧ i ≠ ni ∧ i ≠ b)) (h3 : ∀ j, 1000 ≤ j → j ≠ b → j ≠ i → x.S j = S j) : Q .ret x := by
  obtain ⟨y, y1, hg, y2, y3⟩ := lnameEnd (C := C) (S := S) (i := i) hb hj hN hc hx hni hbn h1000 hi h3
  have hj2 : 2 ≠ j := fun e => by subst e; rw [s2] at hj; cases hj
  have e2 := y2 2 (by omega) (by omega) hj2
  rw [s2] at e2
  refine hok x y hg ⟨aLm t, ?_, rfl, y3⟩
  rw [← y1] at h2
  simp [resAll, resOne, tupV, h2, e2, blkCells, pack]

set_option maxRecDepth 100000
def ir_lambda_C : IR :=
  (.seq (.ops [.i 2 (.alloc 25 [.st (.int .i64 0), .st (.int .i64 0), .full []])]) (.seq (.ops [.m 3 0, .i 4 (.build [.st (.int .i64 0), .st (.int .i64 0), .full []] [(0, 1, .n 4), (1, 1, .t 3)]), .s 3 2 4]) .ret))
theorem ok_lambda_C : OkF Tryd.prog 38 5 [] ir_lambda_C [.cell 2 true 3] := .of Tryd.func38 rfl rfl (by kernel_rfl) rfl
def ir_R_ConstOf : IR :=
  (.seq (.ops [.i 2 (.mov (.n 0))]) (.seq (.seq (.ops [.i 3 (.mov (.n 0))]) (.block 0 (.loop (.seq (.seq (.ops [.m 4 3, .i 5 (.bin .lss (.t 4) (.n 40))]) (.cond (.t 5) .skip (.exit 0))) (.seq (.block 1 (.seq (.ops [.m 8 0, .m 9 3, .i 10 (.call 47 [.t 9]), .i 11 (.bin .add (.c (.one (.st (.str (ByteArray.mk (#[99])))))) (.t 10)), .i 12 (.bin .eql (.t 8) (.t 11))]) (.cond (.t 12) (.seq (.ops [.m 13 3, .m 2 13]) .ret) .skip))) (.ops [.m 6 3, .i 7 (.bin .add (.t 6) (.n 1)), .m 3 7])))))) (.seq (.ops [.i 2 (.mov (.c (.one (.st (.int .i64 (-1))))))]) .ret)))
theorem ok_R_ConstOf : OkF Tryd.prog 41 14 [] ir_R_ConstOf [.t 2] := .of Tryd.func41 rfl rfl (by kernel_rfl) rfl

def ir_R_Con : IR :=
  (.seq (.ops [.i 2 (.alloc 25 [.st (.int .i64 0), .st (.int .i64 0), .full []])]) (.seq (.ops [.m 3 0, .i 4 (.build [.st (.int .i64 0), .st (.int .i64 0), .full []] [(0, 1, .n 4), (1, 1, .t 3)]), .s 3 2 4]) .ret))
theorem ok_R_Con : OkF Tryd.prog 42 5 [] ir_R_Con [.cell 2 true 3] := .of Tryd.func42 rfl rfl (by kernel_rfl) rfl

theorem lCon_a (i : Int) : ACalls Tryd.prog 42 [aInt i] (aLm (.mk 4 i [])) := by
  refine ok_R_Con.ac fun C hC => ?_
  unfold ir_R_Con
  repeat' (first | (with_reducible first | refine W ?_ | refine Wz0 ?_) | ((with_reducible first | refine Wo (fun K hK => ?_) | refine Wp ?_ | refine Wq ?_ | refine Wr ?_); (try simp only [go_sem, fN, seval, eT, iR, dT, dF, nL]); (repeat with_reducible refine Ai ?_); (try (refine hK _ ?_; clear hK K)); (try with_reducible refine iC ?_)))
  simp only [go_sem, fN, seval, FinQ, AS.result, resAll, resOne, tupV]
  simp [Lm.kind_mk, Lm.idx_mk, Lm.subs_mk, encL_eq]

theorem lC_a (i : Int) : ACalls Tryd.prog 38 [aInt i] (aLm (.mk 4 i [])) := by
  refine ok_lambda_C.ac fun C hC => ?_
  unfold ir_lambda_C
  repeat' (first | (with_reducible first | refine W ?_ | refine Wz0 ?_) | ((with_reducible first | refine Wo (fun K hK => ?_) | refine Wp ?_ | refine Wq ?_ | refine Wr ?_); (try simp only [go_sem, fN, seval, eT, iR, dT, dF, nL]); (repeat with_reducible refine Ai ?_); (try (refine hK _ ?_; clear hK K)); (try with_reducible refine iC ?_)))
  simp only [go_sem, fN, seval, FinQ, AS.result, resAll, resOne, tupV]
  simp [Lm.kind_mk, Lm.idx_mk, Lm.subs_mk, encL_eq]

set_option maxHeartbeats 2000000
def LT (s : ByteArray) (f : Nat) : Prop := ∀ (ns : List ByteArray) (at_ k b i ni N : Nat) (S : AStore), at_ ≤ s.size → k ≤ 200 → 3 * (s.size - at_) + 2 < f → ns.length + (s.size - at_) + 1 < N → N ≤ 1000000 → 1000 ≤ b → 1000 ≤ i → 1000 ≤ ni →
  S b = some (boxL (tailS s at_) (.row i ns.length) (200 - k)) → S i = some (rowL ns) → S ni = none → LRS 10 (lrT s f ns at_ k) S (ldone S b i ni N ns (tailS s (lrT s f ns at_ k).i) (200 - (lrT s f ns at_ k).k)) (lfail S b i N) b
def LPc (s : ByteArray) (f : Nat) : Prop := ∀ (ns : List ByteArray) (at_ k b i ni N : Nat) (S : AStore), at_ ≤ s.size → k ≤ 200 → 3 * (s.size - at_) + 1 < f → ns.length + (s.size - at_) + 1 < N → N ≤ 1000000 → 1000 ≤ b → 1000 ≤ i → 1000 ≤ ni →
  S b = some (boxL (tailS s at_) (.row i ns.length) (200 - k)) → S i = some (rowL ns) → S ni = none → LRS 21 (lrP s f ns at_ k) S (ldone S b i ni N ns (tailS s (lrP s f ns at_ k).i) (200 - (lrP s f ns at_ k).k)) (lfail S b i N) b
set_option maxRecDepth 100000 in
theorem piece_S {s : ByteArray} (hs : s.size ≤ 100000) {f : Nat} (hT : LT s f) : LPc s (f + 1) := by
  intro ns at_ k b i ni N S hat hk hf hN hN2 hb hi hni sb si sni
  have hbi : ¬ b = i := fun e => by subst e; rw [sb] at si; cases si
  have hbn : ¬ b = ni := fun e => by subst e; rw [sb] at sni; cases sni
  have hin : ¬ i = ni := fun e => by subst e; rw [si] at sni; cases sni
  have hib : ¬ i = b := fun e => hbi e.symm
  have hnb : ¬ ni = b := fun e => hbn e.symm
  have hnj : ¬ ni = i := fun e => hin e.symm
  have hus := tail_size s at_
  obtain ⟨q, hq⟩ : ∃ q, lrP s (f + 1) ns at_ k = q := ⟨_, rfl⟩
  rw [hq]
  refine lrs_of ok_metaprune_lambda_reader_piece (by decide) (clean_ldone hb hi hni) (clean_lfail hb hi) fun hS C Q hC htop hok hpan => ?_
  have n1 : S 1 = none := clean_none hS (by omega)
  have n2 : S 2 = none := clean_none hS (by omega)
  have n3 : S 3 = none := clean_none hS (by omega)
  have n4 : S 4 = none := clean_none hS (by omega)
  have n5 : S 5 = none := clean_none hS (by omega)
  have n900 : S 900 = none := clean_none hS (by omega)
  have n901 : S 901 = none := clean_none hS (by omega)
  unfold ir_metaprune_lambda_reader_piece
  repeat' (first | (with_reducible first | refine W ?_ | refine Wz0 ?_) | ((with_reducible first | refine Wx rfl (fun K hK => ?_) | refine Wp ?_ | refine Wq ?_ | refine Wr ?_); (try simp only [go_sem, fN, seval, eT, iR, AS.startS, hi_ne, lo_ne, hb, hi, hni, n1, n2, n3, n4, n5, n900, n901, hbi, hib, hbn, hnb, hin, hnj, dT, dF, nL]); (repeat with_reducible refine Ai ?_); (try (refine hK _ ?_; clear hK K)); (try with_reducible refine iC ?_)))
  refine ⟨_, _, lnext_at (s := s) (at_ := at_) (nm := .row (up1 i) ns.length) (l := 200 - k) (up1_le b) (up_boxL (by simp only [go_sem, fN, seval, eT, iR, hi_ne, lo_ne, hb, hi, hni, n1, n2, n3, n4, n5, n900, n901, hbi, hib, hbn, hnb, hin, hnj, sb])), ?_⟩
  by_cases h0 : at_ < s.size ∧ byteAt s at_ = 40
  · have ha := ahead_yes h0
    obtain ⟨h0, h0'⟩ := h0
    rw [lrP, if_pos ⟨h0, h0'⟩] at hq
    have hdr := tail_drop (s := s) (i := at_) (n := 1) (by omega)
    have h1i : (1 : Int) ≤ (tailS s at_).size := by omega
    have hc := hT ns (at_ + 1) k (up1 b) (up1 i) (up1 900) N
    by_cases he : (lrT s f ns (at_ + 1) k).e = 0
    case neg =>
      rw [if_neg he] at hq
      subst hq
      repeat' (first | (with_reducible first | refine W ?_ | refine Wz0 ?_) | (first | refine IWP.opsPan 1 ⟨some 21, none, .callS 10 [.t 20], .no⟩ rfl (by kernel_rfl) ?_) | ((with_reducible first | refine Wx rfl (fun K hK => ?_) | refine Wp ?_ | refine Wq ?_ | refine Wr ?_); (try simp only [go_sem, fN, seval, eT, iR, hi_ne, lo_ne, hb, hi, hni, n1, n2, n3, n4, n5, n900, n901, hbi, hib, hbn, hnb, hin, hnj, ha, sb, hdr, h1i, dT, dF, nL]); (repeat with_reducible refine Ai ?_); (try (refine hK _ ?_; clear hK K)); (try with_reducible refine iC ?_)))
      simp only [go_sem, fN, seval, eT, iR, PanAt, List.take_succ_cons, List.take_zero, hi_ne, lo_ne, hb, hi, hni, n1, n2, n3, n4, n5, n900, n901, hbi, hib, hbn, hnb, hin, hnj]
      refine ⟨_, _, (hc _ (by omega) hk (by omega) (by omega) hN2 (up1_le b) (up1_le i) (up1_le 900) (up_boxL (by simp only [go_sem, fN, seval, eT, iR, hi_ne, lo_ne, hb, hi, hni, n1, n2, n3, n4, n5, n900, n901, hbi, hib, hbn, hnb, hin, hnj, sb])) (up_rowL (by simp only [go_sem, fN, seval, eT, iR, hi_ne, lo_ne, hb, hi, hni, n1, n2, n3, n4, n5, n900, n901, hbi, hib, hbn, hnb, hin, hnj, si])) (up_none (by simp only [go_sem, fN, seval, eT, iR, hi_ne, lo_ne, hb, hi, hni, n1, n2, n3, n4, n5, n900, n901, hbi, hib, hbn, hnb, hin, hnj]))).2 he, fun envP => ?_⟩
      repeat' (with_reducible first | refine Wy ?_ | refine Wz ?_ | refine Wv ?_)
      refine pan_to hbi (hpan he) _ (.inr ?_) (.inr ?_) fun j j1 j2 j3 => ?_
      · simp only [go_sem, fN, seval, eT, iR, dn_lfail, lfail, hi_ne, lo_ne, hb, hi, hni, n1, n2, n3, n4, n5, n900, n901, hbi, hib, hbn, hnb, hin, hnj]
      · simp only [go_sem, fN, seval, eT, iR, dn_lfail, lfail, hi_ne, lo_ne, hb, hi, hni, n1, n2, n3, n4, n5, n900, n901, hbi, hib, hbn, hnb, hin, hnj]
      · simp only [go_sem, fN, seval, eT, iR, dn_lfail, lfail, hi_ne, lo_ne, j1, j2, j3]
    case pos =>
    rw [if_pos he] at hq
    have hqo := lrT_ok s f ns (at_ + 1) k (by omega) hk (by omega)
    obtain ⟨o1, o2, o3, o4⟩ := hqo.ok he
    repeat' (first | (with_reducible first | refine W ?_ | refine Wz0 ?_) | ((with_reducible first | refine Wx rfl (fun K hK => ?_) | refine Wp ?_ | refine Wq ?_ | refine Wr ?_); (try simp only [go_sem, fN, seval, eT, iR, hi_ne, lo_ne, hb, hi, hni, n1, n2, n3, n4, n5, n900, n901, hbi, hib, hbn, hnb, hin, hnj, ha, sb, hdr, h1i, dT, dF, nL]); (repeat with_reducible refine Ai ?_); (try (refine hK _ ?_; clear hK K)); (try with_reducible refine iC ?_)))
    refine ⟨_, _, (hc _ (by omega) hk (by omega) (by omega) hN2 (up1_le b) (up1_le i) (up1_le 900) (up_boxL (by simp only [go_sem, fN, seval, eT, iR, hi_ne, lo_ne, hb, hi, hni, n1, n2, n3, n4, n5, n900, n901, hbi, hib, hbn, hnb, hin, hnj, sb])) (up_rowL (by simp only [go_sem, fN, seval, eT, iR, hi_ne, lo_ne, hb, hi, hni, n1, n2, n3, n4, n5, n900, n901, hbi, hib, hbn, hnb, hin, hnj, si])) (up_none (by simp only [go_sem, fN, seval, eT, iR, hi_ne, lo_ne, hb, hi, hni, n1, n2, n3, n4, n5, n900, n901, hbi, hib, hbn, hnb, hin, hnj]))).1 he, ?_⟩
    clear hc hT
    generalize lrT s f ns (at_ + 1) k = p at *
    by_cases hw : wantE s 41 p.i = 0
    case neg =>
      subst hq
      repeat' (first | (with_reducible first | refine W ?_ | refine Wz0 ?_) | (first | refine IWP.opsPan 1 ⟨some 23, none, .callS 19 [.t 22, .c (.one (.st (.int .u8 41)))], .no⟩ rfl (by kernel_rfl) ?_) | ((with_reducible first | refine Wx rfl (fun K hK => ?_) | refine Wp ?_ | refine Wq ?_ | refine Wr ?_); (try simp only [go_sem, fN, seval, eT, iR, dn_ldone, ldone, hi_ne, lo_ne, hb, hi, hni, n1, n2, n3, n4, n5, n900, n901, hbi, hib, hbn, hnb, hin, hnj, ha, sb, hdr, h1i, dT, dF, nL]); (repeat with_reducible refine Ai ?_); (try (refine hK _ ?_; clear hK K)); (try with_reducible refine iC ?_)))
      simp only [go_sem, fN, seval, eT, iR, PanAt, List.take_succ_cons, List.take_zero, hi_ne, lo_ne, hb, hi, hni, n1, n2, n3, n4, n5, n900, n901, hbi, hib, hbn, hnb, hin, hnj]
      refine ⟨_, _, lsign_pan (c := 41) (nm := .row (up1 900) ns.length) (l := 200 - p.k) o1 (up1_le b) (up_boxL (by simp only [go_sem, fN, seval, eT, iR, hi_ne, lo_ne, hb, hi, hni, n1, n2, n3, n4, n5, n900, n901, hbi, hib, hbn, hnb, hin, hnj])) hw, fun envP => ?_⟩
      repeat' (with_reducible first | refine Wy ?_ | refine Wz ?_ | refine Wv ?_)
      refine pan_to hbi (hpan hw) _ (.inr ?_) (.inr ?_) fun j j1 j2 j3 => ?_
      · simp only [go_sem, fN, seval, eT, iR, hi_ne, lo_ne, hb, hi, hni, n1, n2, n3, n4, n5, n900, n901, hbi, hib, hbn, hnb, hin, hnj]
      · simp only [go_sem, fN, seval, eT, iR, hi_ne, lo_ne, hb, hi, hni, n1, n2, n3, n4, n5, n900, n901, hbi, hib, hbn, hnb, hin, hnj]
      · simp only [go_sem, fN, seval, eT, iR, hi_ne, lo_ne, j1, j2, j3]
    case pos =>
      subst hq
      repeat' (first | (with_reducible first | refine W ?_ | refine Wz0 ?_) | ((with_reducible first | refine Wx rfl (fun K hK => ?_) | refine Wp ?_ | refine Wq ?_ | refine Wr ?_); (try simp only [go_sem, fN, seval, eT, iR, dn_ldone, ldone, hi_ne, lo_ne, hb, hi, hni, n1, n2, n3, n4, n5, n900, n901, hbi, hib, hbn, hnb, hin, hnj, ha, sb, hdr, h1i, dT, dF, nL]); (repeat with_reducible refine Ai ?_); (try (refine hK _ ?_; clear hK K)); (try with_reducible refine iC ?_)))
      refine ⟨_, _, lsign_at (c := 41) (nm := .row (up1 900) ns.length) (l := 200 - p.k) o1 (up1_le b) (high_row (up1_le 900)) (up_boxL (by simp only [go_sem, fN, seval, eT, iR, hi_ne, lo_ne, hb, hi, hni, n1, n2, n3, n4, n5, n900, n901, hbi, hib, hbn, hnb, hin, hnj])) hw, ?_⟩
      repeat' (first | (with_reducible first | refine W ?_ | refine Wz0 ?_) | ((with_reducible first | refine Wx rfl (fun K hK => ?_) | refine Wp ?_ | refine Wq ?_ | refine Wr ?_); (try simp only [go_sem, fN, seval, eT, iR, dn_ldone, ldone, hi_ne, lo_ne, hb, hi, hni, n1, n2, n3, n4, n5, n900, n901, hbi, hib, hbn, hnb, hin, hnj, ha, sb, hdr, h1i, dT, dF, nL]); (repeat with_reducible refine Ai ?_); (try (refine hK _ ?_; clear hK K)); (try with_reducible refine iC ?_)))
      refine lend_to (hok hw) _ 900 ns (.row 900 ns.length) rfl ?_ ?_ ?_ (by omega) (.inr ⟨rfl, rfl⟩) (List.take_length) ?_ hbn hni hb (.inr ⟨by decide, ?_, hin, hib⟩) fun j j1 j2 j3 => ?_
      · simp only [go_sem, fN, seval, eT, iR, hi_ne, lo_ne, hb, hi, hni, n1, n2, n3, n4, n5, n900, n901, hbi, hib, hbn, hnb, hin, hnj]
      · simp only [go_sem, fN, seval, eT, iR, hi_ne, lo_ne, hb, hi, hni, n1, n2, n3, n4, n5, n900, n901, hbi, hib, hbn, hnb, hin, hnj]
      · simp only [go_sem, fN, seval, eT, iR, hi_ne, lo_ne, hb, hi, hni, n1, n2, n3, n4, n5, n900, n901, hbi, hib, hbn, hnb, hin, hnj]
      · simp only [go_sem, fN, seval, eT, iR, hi_ne, lo_ne, hb, hi, hni, n1, n2, n3, n4, n5, n900, n901, hbi, hib, hbn, hnb, hin, hnj, sni]
      · simp only [go_sem, fN, seval, eT, iR, hi_ne, lo_ne, hb, hi, hni, n1, n2, n3, n4, n5, n900, n901, hbi, hib, hbn, hnb, hin, hnj]
      · simp only [go_sem, fN, seval, eT, iR, hi_ne, lo_ne, j1, j2, j3]
  have ha := ahead_no (c := 40) (by decide) h0
  rw [lrP, if_neg h0] at hq
  obtain ⟨m1, m2, m3, m4⟩ := nmErr_ok hat
  clear hT
  by_cases he : nmErr s at_ = 0
  case neg =>
    rw [if_neg he] at hq
    subst hq
    repeat' (first | (with_reducible first | refine W ?_ | refine Wz0 ?_) | (first | refine IWP.opsPan 1 ⟨some 26, none, .callS 18 [.t 25], .no⟩ rfl (by kernel_rfl) ?_) | ((with_reducible first | refine Wx rfl (fun K hK => ?_) | refine Wp ?_ | refine Wq ?_ | refine Wr ?_); (try simp only [go_sem, fN, seval, eT, iR, hi_ne, lo_ne, hb, hi, hni, n1, n2, n3, n4, n5, n900, n901, hbi, hib, hbn, hnb, hin, hnj, ha, sb, dT, dF, nL]); (repeat with_reducible refine Ai ?_); (try (refine hK _ ?_; clear hK K)); (try with_reducible refine iC ?_)))
    simp only [go_sem, fN, seval, eT, iR, PanAt, List.take_succ_cons, List.take_zero, hi_ne, lo_ne, hb, hi, hni, n1, n2, n3, n4, n5, n900, n901, hbi, hib, hbn, hnb, hin, hnj]
    refine ⟨_, _, lname_pan (nm := .row (up1 i) ns.length) (l := 200 - k) hs hat (up1_le b) (up_boxL (by simp only [go_sem, fN, seval, eT, iR, hi_ne, lo_ne, hb, hi, hni, n1, n2, n3, n4, n5, n900, n901, hbi, hib, hbn, hnb, hin, hnj, sb])) he, fun envP => ?_⟩
    repeat' (with_reducible first | refine Wy ?_ | refine Wz ?_ | refine Wv ?_)
    refine pan_to hbi (hpan he) _ (.inr ?_) (.inl ⟨ns, ?_, by omega⟩) fun j j1 j2 j3 => ?_
    · simp only [go_sem, fN, seval, eT, iR, hi_ne, lo_ne, hb, hi, hni, n1, n2, n3, n4, n5, n900, n901, hbi, hib, hbn, hnb, hin, hnj]
    · simp only [go_sem, fN, seval, eT, iR, hi_ne, lo_ne, hb, hi, hni, n1, n2, n3, n4, n5, n900, n901, hbi, hib, hbn, hnb, hin, hnj, si]
    · simp only [go_sem, fN, seval, eT, iR, hi_ne, lo_ne, j1, j2, j3]
  case pos =>
  rw [if_pos he] at hq
  obtain ⟨m5, m6⟩ := m4 he
  obtain ⟨z1, z8, zl⟩ := nameOk_cases m6
  obtain ⟨nm, hnm⟩ : ∃ nm, nmAt s at_ = nm := ⟨_, rfl⟩
  repeat' (first | (with_reducible first | refine W ?_ | refine Wz0 ?_) | ((with_reducible first | refine Wx rfl (fun K hK => ?_) | refine Wp ?_ | refine Wq ?_ | refine Wr ?_); (try simp only [go_sem, fN, seval, eT, iR, hi_ne, lo_ne, hb, hi, hni, n1, n2, n3, n4, n5, n900, n901, hbi, hib, hbn, hnb, hin, hnj, ha, sb, dT, dF, nL]); (repeat with_reducible refine Ai ?_); (try (refine hK _ ?_; clear hK K)); (try with_reducible refine iC ?_)))
  refine ⟨_, _, lname_at (nm := .row (up1 i) ns.length) (l := 200 - k) hs hat (up1_le b) (high_row (up1_le i)) (up_boxL (by simp only [go_sem, fN, seval, eT, iR, hi_ne, lo_ne, hb, hi, hni, n1, n2, n3, n4, n5, n900, n901, hbi, hib, hbn, hnb, hin, hnj, sb])) he, ?_⟩
  rw [hnm] at hq m6 z1 z8 zl ⊢
  by_cases hk2 : 200 < k + 1
  · have hqe : q.e = 3 := by
      rw [← hq]
      unfold lrV
      split <;> exact if_pos hk2
    rw [hqe] at hpan
    repeat' (first | (with_reducible first | refine W ?_ | refine Wz0 ?_) | (first | refine IWP.opsPan 1 ⟨some 28, none, .callS 17 [.t 27], .no⟩ rfl (by kernel_rfl) ?_) | ((with_reducible first | refine Wx rfl (fun K hK => ?_) | refine Wp ?_ | refine Wq ?_ | refine Wr ?_); (try simp only [go_sem, fN, seval, eT, iR, hi_ne, lo_ne, hb, hi, hni, n1, n2, n3, n4, n5, n900, n901, hbi, hib, hbn, hnb, hin, hnj, ha, sb, dT, dF, nL]); (repeat with_reducible refine Ai ?_); (try (refine hK _ ?_; clear hK K)); (try with_reducible refine iC ?_)))
    simp only [go_sem, fN, seval, eT, iR, PanAt, List.take_succ_cons, List.take_zero, hi_ne, lo_ne, hb, hi, hni, n1, n2, n3, n4, n5, n900, n901, hbi, hib, hbn, hnb, hin, hnj]
    refine ⟨_, _, ltake_P (nm := .row (up1 i) ns.length) (u := tailS s (lendA s at_)) (l := 200 - k) (up1_le b) (high_row (up1_le i)) (up_boxL (by simp only [go_sem, fN, seval, eT, iR, hi_ne, lo_ne, hb, hi, hni, n1, n2, n3, n4, n5, n900, n901, hbi, hib, hbn, hnb, hin, hnj, sb])) (by omega) (by omega), fun envP => ?_⟩
    repeat' (with_reducible first | refine Wy ?_ | refine Wz ?_ | refine Wv ?_)
    refine pan_to hbi (hpan (by decide)) _ (.inr ?_) (.inl ⟨ns, ?_, by omega⟩) fun j j1 j2 j3 => ?_
    · simp only [go_sem, fN, seval, eT, iR, hi_ne, lo_ne, hb, hi, hni, n1, n2, n3, n4, n5, n900, n901, hbi, hib, hbn, hnb, hin, hnj]
    · simp only [go_sem, fN, seval, eT, iR, hi_ne, lo_ne, hb, hi, hni, n1, n2, n3, n4, n5, n900, n901, hbi, hib, hbn, hnb, hin, hnj, si]
    · simp only [go_sem, fN, seval, eT, iR, hi_ne, lo_ne, j1, j2, j3]
  repeat' (first | (with_reducible first | refine W ?_ | refine Wz0 ?_) | ((with_reducible first | refine Wx rfl (fun K hK => ?_) | refine Wp ?_ | refine Wq ?_ | refine Wr ?_); (try simp only [go_sem, fN, seval, eT, iR, hi_ne, lo_ne, hb, hi, hni, n1, n2, n3, n4, n5, n900, n901, hbi, hib, hbn, hnb, hin, hnj, ha, sb, dT, dF, nL]); (repeat with_reducible refine Ai ?_); (try (refine hK _ ?_; clear hK K)); (try with_reducible refine iC ?_)))
  refine ⟨_, _, ltake_S (nm := .row (up1 i) ns.length) (u := tailS s (lendA s at_)) (l := 200 - k) (up1_le b) (high_row (up1_le i)) (up_boxL (by simp only [go_sem, fN, seval, eT, iR, hi_ne, lo_ne, hb, hi, hni, n1, n2, n3, n4, n5, n900, n901, hbi, hib, hbn, hnb, hin, hnj, sb])) (by omega) (by omega), ?_⟩
  repeat' (first | (with_reducible first | refine W ?_ | refine Wz0 ?_) | ((with_reducible first | refine Wx rfl (fun K hK => ?_) | refine Wp ?_ | refine Wq ?_ | refine Wr ?_); (try simp only [go_sem, fN, seval, eT, iR, hi_ne, lo_ne, hb, hi, hni, n1, n2, n3, n4, n5, n900, n901, hbi, hib, hbn, hnb, hin, hnj, ha, sb, dT, dF, nL]); (repeat with_reducible refine Ai ?_); (try (refine hK _ ?_; clear hK K)); (try with_reducible refine iC ?_)))
  refine ⟨_, _, backward_M _ (up1 900) (up1 i) ns.length (up1_le 900) (up1_le i) (up_none (by simp only [go_sem, fN, seval, eT, iR, hi_ne, lo_ne, hb, hi, hni, n1, n2, n3, n4, n5, n900, n901, hbi, hib, hbn, hnb, hin, hnj])), ?_⟩
  repeat' (first | (with_reducible first | refine W ?_ | refine Wz0 ?_) | ((with_reducible first | refine Wx rfl (fun K hK => ?_) | refine Wp ?_ | refine Wq ?_ | refine Wr ?_); (try simp only [go_sem, fN, seval, eT, iR, hi_ne, lo_ne, hb, hi, hni, n1, n2, n3, n4, n5, n900, n901, hbi, hib, hbn, hnb, hin, hnj, ha, sb, dT, dF, nL]); (repeat with_reducible refine Ai ?_); (try (refine hK _ ?_; clear hK K)); (try with_reducible refine iC ?_)))
  refine pieceLoop2 htop hC ns (by omega) nm b i hb (tailS s (lendA s at_)) (200 - k - 1) 22 _ _ (by simp only [go_sem, fN, seval, eT, iR, hi_ne, lo_ne, hb, hi, hni, n1, n2, n3, n4, n5, n900, n901, hbi, hib, hbn, hnb, hin, hnj]) (by simp only [go_sem, fN, seval, eT, iR, hi_ne, lo_ne, hb, hi, hni, n1, n2, n3, n4, n5, n900, n901, hbi, hib, hbn, hnb, hin, hnj]) (by simp only [go_sem, fN, seval, eT, iR, hi_ne, lo_ne, hb, hi, hni, n1, n2, n3, n4, n5, n900, n901, hbi, hib, hbn, hnb, hin, hnj]) (by simp only [go_sem, fN, seval, eT, iR, hi_ne, lo_ne, hb, hi, hni, n1, n2, n3, n4, n5, n900, n901, hbi, hib, hbn, hnb, hin, hnj]) (e1 := 34) (cs := [.st (.int .i64 0), .st (.int .i64 0), .full []]) (by simp only [go_sem, fN, seval, eT, iR, hi_ne, lo_ne, hb, hi, hni, n1, n2, n3, n4, n5, n900, n901, hbi, hib, hbn, hnb, hin, hnj]) rfl (by simp only [go_sem, fN, seval, eT, iR, hi_ne, lo_ne, hb, hi, hni, n1, n2, n3, n4, n5, n900, n901, hbi, hib, hbn, hnb, hin, hnj]) (by simp only [go_sem, fN, seval, eT, iR, hi_ne, lo_ne, hb, hi, hni, n1, n2, n3, n4, n5, n900, n901, hbi, hib, hbn, hnb, hin, hnj]) (by simp only [go_sem, fN, seval, eT, iR, hi_ne, lo_ne, hb, hi, hni, n1, n2, n3, n4, n5, n900, n901, hbi, hib, hbn, hnb, hin, hnj]) (by simp only [go_sem, fN, seval, eT, iR, hi_ne, lo_ne, hb, hi, hni, n1, n2, n3, n4, n5, n900, n901, hbi, hib, hbn, hnb, hin, hnj, si]) (by simp only [go_sem, fN, seval, eT, iR, hi_ne, lo_ne, hb, hi, hni, n1, n2, n3, n4, n5, n900, n901, hbi, hib, hbn, hnb, hin, hnj]) (by simp only [go_sem, fN, seval, eT, iR, hi_ne, lo_ne, hb, hi, hni, n1, n2, n3, n4, n5, n900, n901, hbi, hib, hbn, hnb, hin, hnj]) (fun hbd => ?_) fun kk hbd => ?_
  · have hqc : q = ⟨.mk 4 (constOf nm) [], lendA s at_, k + 1, if constOf nm < 0 then 15 else 0⟩ := by
      rw [← hq]
      unfold lrV
      rw [hbd]
      simp only [if_neg hk2]
    have n0 : 0 < nm.size := z1
    have z1' : (1 : Int) ≤ nm.size := by omega
    have hz : (rest1 nm).size ≤ 18 := by rw [rest1_size]; omega
    have hat0 := @atoi_no (rest1 nm) hz
    have hatn := fun n => @atoi_a (rest1 nm) n hz
    clear hq
    cases hq2 : Lib.atoi (rest1 nm).data.toList with
    | none =>
      have hc : constOf nm = -1 := constOf_no fun ⟨_, n, h, _⟩ => by rw [hq2] at h; cases h
      rw [hc, if_pos (by decide)] at hqc
      subst hqc
      have hA := hat0 hq2
      unfold rest1 at hA
      by_cases h99 : byteAt nm 0 = 99
      · repeat' (first | (with_reducible first | refine W ?_ | refine Wz0 ?_) | refine Cg _ (hA) ?_ | ((with_reducible first | refine Wx rfl (fun K hK => ?_) | refine Wp ?_ | refine Wq ?_ | refine Wr ?_); (try simp only [go_sem, fN, seval, eT, iR, hi_ne, lo_ne, hb, hi, hni, n1, n2, n3, n4, n5, n900, n901, hbi, hib, hbn, hnb, hin, hnj, z1', n0, byteN_eq, h99, aErr, dT, dF, nL]); (repeat with_reducible refine Ai ?_); (try (refine hK _ ?_; clear hK K)); (try with_reducible refine iC ?_)))
        refine IWP.opsPan 1 _ rfl (by kernel_rfl) ?_
        simp only [go_sem, fN, seval, eT, iR, PanAt, List.take_succ_cons, List.take_zero]
        intro envP
        repeat' (with_reducible first | refine Wy ?_ | refine Wz ?_ | refine Wv ?_)
        refine pan_to hbi (hpan (by show ¬ (15 : Int) = 0; decide)) _ (.inl ⟨37, [.st (.str (tailS s (lendA s at_))), .row i ns.length, .st (.int .i64 (200 - k - 1))], ?_⟩) (.inl ⟨ns, ?_, by omega⟩) fun j j1 j2 j3 => ?_
        · simp only [go_sem, fN, seval, eT, iR, hi_ne, lo_ne, hb, hi, hni, n1, n2, n3, n4, n5, n900, n901, hbi, hib, hbn, hnb, hin, hnj]
        · simp only [go_sem, fN, seval, eT, iR, hi_ne, lo_ne, hb, hi, hni, n1, n2, n3, n4, n5, n900, n901, hbi, hib, hbn, hnb, hin, hnj, si]
        · simp only [go_sem, fN, seval, eT, iR, hi_ne, lo_ne, j1, j2, j3]
      · repeat' (first | (with_reducible first | refine W ?_ | refine Wz0 ?_) | refine Cg _ (hA) ?_ | ((with_reducible first | refine Wx rfl (fun K hK => ?_) | refine Wp ?_ | refine Wq ?_ | refine Wr ?_); (try simp only [go_sem, fN, seval, eT, iR, hi_ne, lo_ne, hb, hi, hni, n1, n2, n3, n4, n5, n900, n901, hbi, hib, hbn, hnb, hin, hnj, z1', n0, byteN_eq, h99, aErr, dT, dF, nL]); (repeat with_reducible refine Ai ?_); (try (refine hK _ ?_; clear hK K)); (try with_reducible refine iC ?_)))
        refine IWP.opsPan 1 _ rfl (by kernel_rfl) ?_
        simp only [go_sem, fN, seval, eT, iR, PanAt, List.take_succ_cons, List.take_zero]
        intro envP
        repeat' (with_reducible first | refine Wy ?_ | refine Wz ?_ | refine Wv ?_)
        refine pan_to hbi (hpan (by show ¬ (15 : Int) = 0; decide)) _ (.inl ⟨37, [.st (.str (tailS s (lendA s at_))), .row i ns.length, .st (.int .i64 (200 - k - 1))], ?_⟩) (.inl ⟨ns, ?_, by omega⟩) fun j j1 j2 j3 => ?_
        · simp only [go_sem, fN, seval, eT, iR, hi_ne, lo_ne, hb, hi, hni, n1, n2, n3, n4, n5, n900, n901, hbi, hib, hbn, hnb, hin, hnj]
        · simp only [go_sem, fN, seval, eT, iR, hi_ne, lo_ne, hb, hi, hni, n1, n2, n3, n4, n5, n900, n901, hbi, hib, hbn, hnb, hin, hnj, si]
        · simp only [go_sem, fN, seval, eT, iR, hi_ne, lo_ne, j1, j2, j3]
    | some n =>
      have hA := hatn n hq2
      have hI := itoaAll_a n
      unfold rest1 at hA
      by_cases h99 : byteAt nm 0 = 99
      case neg =>
        have hc : constOf nm = -1 := constOf_no fun ⟨h, _⟩ => h99 h
        rw [hc, if_pos (by decide)] at hqc
        subst hqc
        repeat' (first | (with_reducible first | refine W ?_ | refine Wz0 ?_) | refine Cg _ (hA) ?_ | ((with_reducible first | refine Wx rfl (fun K hK => ?_) | refine Wp ?_ | refine Wq ?_ | refine Wr ?_); (try simp only [go_sem, fN, seval, eT, iR, hi_ne, lo_ne, hb, hi, hni, n1, n2, n3, n4, n5, n900, n901, hbi, hib, hbn, hnb, hin, hnj, z1', n0, byteN_eq, h99, aNilI, dT, dF, nL]); (repeat with_reducible refine Ai ?_); (try (refine hK _ ?_; clear hK K)); (try with_reducible refine iC ?_)))
        refine IWP.opsPan 1 _ rfl (by kernel_rfl) ?_
        simp only [go_sem, fN, seval, eT, iR, PanAt, List.take_succ_cons, List.take_zero]
        intro envP
        repeat' (with_reducible first | refine Wy ?_ | refine Wz ?_ | refine Wv ?_)
        refine pan_to hbi (hpan (by show ¬ (15 : Int) = 0; decide)) _ (.inl ⟨37, [.st (.str (tailS s (lendA s at_))), .row i ns.length, .st (.int .i64 (200 - k - 1))], ?_⟩) (.inl ⟨ns, ?_, by omega⟩) fun j j1 j2 j3 => ?_
        · simp only [go_sem, fN, seval, eT, iR, hi_ne, lo_ne, hb, hi, hni, n1, n2, n3, n4, n5, n900, n901, hbi, hib, hbn, hnb, hin, hnj]
        · simp only [go_sem, fN, seval, eT, iR, hi_ne, lo_ne, hb, hi, hni, n1, n2, n3, n4, n5, n900, n901, hbi, hib, hbn, hnb, hin, hnj, si]
        · simp only [go_sem, fN, seval, eT, iR, hi_ne, lo_ne, j1, j2, j3]
      case pos =>
      by_cases hit : (⟨(Lib.itoa n).toArray⟩ : ByteArray) = rest1 nm
      case neg =>
        have hc : constOf nm = -1 := constOf_no fun ⟨_, n', h, h', _⟩ => hit (by rw [hq2] at h; cases h; exact h')
        rw [hc, if_pos (by decide)] at hqc
        subst hqc
        unfold rest1 at hit
        repeat' (first | (with_reducible first | refine W ?_ | refine Wz0 ?_) | refine Cg _ (hA) ?_ | refine Cg _ (hI) ?_ | ((with_reducible first | refine Wx rfl (fun K hK => ?_) | refine Wp ?_ | refine Wq ?_ | refine Wr ?_); (try simp only [go_sem, fN, seval, eT, iR, hi_ne, lo_ne, hb, hi, hni, n1, n2, n3, n4, n5, n900, n901, hbi, hib, hbn, hnb, hin, hnj, z1', n0, byteN_eq, h99, aNilI, hit, dT, dF, nL]); (repeat with_reducible refine Ai ?_); (try (refine hK _ ?_; clear hK K)); (try with_reducible refine iC ?_)))
        refine IWP.opsPan 1 _ rfl (by kernel_rfl) ?_
        simp only [go_sem, fN, seval, eT, iR, PanAt, List.take_succ_cons, List.take_zero]
        intro envP
        repeat' (with_reducible first | refine Wy ?_ | refine Wz ?_ | refine Wv ?_)
        refine pan_to hbi (hpan (by show ¬ (15 : Int) = 0; decide)) _ (.inl ⟨37, [.st (.str (tailS s (lendA s at_))), .row i ns.length, .st (.int .i64 (200 - k - 1))], ?_⟩) (.inl ⟨ns, ?_, by omega⟩) fun j j1 j2 j3 => ?_
        · simp only [go_sem, fN, seval, eT, iR, hi_ne, lo_ne, hb, hi, hni, n1, n2, n3, n4, n5, n900, n901, hbi, hib, hbn, hnb, hin, hnj]
        · simp only [go_sem, fN, seval, eT, iR, hi_ne, lo_ne, hb, hi, hni, n1, n2, n3, n4, n5, n900, n901, hbi, hib, hbn, hnb, hin, hnj, si]
        · simp only [go_sem, fN, seval, eT, iR, hi_ne, lo_ne, j1, j2, j3]
      case pos =>
      by_cases hn : n < 40
      case neg =>
        have hc : constOf nm = -1 := constOf_no fun ⟨_, n', h, _, h'⟩ => hn (by rw [hq2] at h; cases h; exact h')
        rw [hc, if_pos (by decide)] at hqc
        subst hqc
        unfold rest1 at hit
        repeat' (first | (with_reducible first | refine W ?_ | refine Wz0 ?_) | refine Cg _ (hA) ?_ | refine Cg _ (hI) ?_ | ((with_reducible first | refine Wx rfl (fun K hK => ?_) | refine Wp ?_ | refine Wq ?_ | refine Wr ?_); (try simp only [go_sem, fN, seval, eT, iR, hi_ne, lo_ne, hb, hi, hni, n1, n2, n3, n4, n5, n900, n901, hbi, hib, hbn, hnb, hin, hnj, z1', n0, byteN_eq, h99, aNilI, hit, hn, dT, dF, nL]); (repeat with_reducible refine Ai ?_); (try (refine hK _ ?_; clear hK K)); (try with_reducible refine iC ?_)))
        refine IWP.opsPan 1 _ rfl (by kernel_rfl) ?_
        simp only [go_sem, fN, seval, eT, iR, PanAt, List.take_succ_cons, List.take_zero]
        intro envP
        repeat' (with_reducible first | refine Wy ?_ | refine Wz ?_ | refine Wv ?_)
        refine pan_to hbi (hpan (by show ¬ (15 : Int) = 0; decide)) _ (.inl ⟨37, [.st (.str (tailS s (lendA s at_))), .row i ns.length, .st (.int .i64 (200 - k - 1))], ?_⟩) (.inl ⟨ns, ?_, by omega⟩) fun j j1 j2 j3 => ?_
        · simp only [go_sem, fN, seval, eT, iR, hi_ne, lo_ne, hb, hi, hni, n1, n2, n3, n4, n5, n900, n901, hbi, hib, hbn, hnb, hin, hnj]
        · simp only [go_sem, fN, seval, eT, iR, hi_ne, lo_ne, hb, hi, hni, n1, n2, n3, n4, n5, n900, n901, hbi, hib, hbn, hnb, hin, hnj, si]
        · simp only [go_sem, fN, seval, eT, iR, hi_ne, lo_ne, j1, j2, j3]
      case pos =>
      obtain ⟨hc, hn0⟩ := constOf_yes z1 zl h99 hit hn
      rw [hc, if_neg (by omega)] at hqc
      subst hqc
      unfold rest1 at hit
      repeat' (first | (with_reducible first | refine W ?_ | refine Wz0 ?_) | refine Cg _ (hA) ?_ | refine Cg _ (hI) ?_ | refine Cg _ (lC_a n) ?_ | ((with_reducible first | refine Wx rfl (fun K hK => ?_) | refine Wp ?_ | refine Wq ?_ | refine Wr ?_); (try simp only [go_sem, fN, seval, eT, iR, hi_ne, lo_ne, hb, hi, hni, n1, n2, n3, n4, n5, n900, n901, hbi, hib, hbn, hnb, hin, hnj, z1', n0, byteN_eq, h99, aNilI, hit, hn, dT, dF, nL]); (repeat with_reducible refine Ai ?_); (try (refine hK _ ?_; clear hK K)); (try with_reducible refine iC ?_)))
      have hl1 : (200 : Int) - ((k + 1 : Nat) : Int) = 200 - k - 1 := by omega
      have hok' : ∀ x y, Ghost C x y → LEnd (.mk 4 n []) (ldone S b i ni N ns (tailS s (lendA s at_)) (200 - k - 1)) y → Q .ret x := by
        rw [← hl1]
        exact hok rfl
      refine lend_to hok' _ i ns (.row i ns.length) rfl ?_ ?_ ?_ (by omega) (.inr ⟨rfl, rfl⟩) (List.take_length) ?_ hbn hni hb (.inl rfl) fun j j1 j2 j3 => ?_
      · simp only [go_sem, fN, seval, eT, iR, hi_ne, lo_ne, hb, hi, hni, n1, n2, n3, n4, n5, n900, n901, hbi, hib, hbn, hnb, hin, hnj]
      · simp only [go_sem, fN, seval, eT, iR, hi_ne, lo_ne, hb, hi, hni, n1, n2, n3, n4, n5, n900, n901, hbi, hib, hbn, hnb, hin, hnj]
      · simp only [go_sem, fN, seval, eT, iR, hi_ne, lo_ne, hb, hi, hni, n1, n2, n3, n4, n5, n900, n901, hbi, hib, hbn, hnb, hin, hnj, si]
      · simp only [go_sem, fN, seval, eT, iR, hi_ne, lo_ne, hb, hi, hni, n1, n2, n3, n4, n5, n900, n901, hbi, hib, hbn, hnb, hin, hnj, sni]
      · simp only [go_sem, fN, seval, eT, iR, hi_ne, lo_ne, j1, j2, j3]
  · have hqv : q = ⟨.v ((ns.length : Int) - 1 - kk), lendA s at_, k + 1, 0⟩ := by
      rw [← hq]
      unfold lrV
      rw [hbd]
      simp only [if_neg hk2]
    clear hq
    subst hqv
    repeat' (first | (with_reducible first | refine W ?_ | refine Wz0 ?_) | ((with_reducible first | refine Wx rfl (fun K hK => ?_) | refine Wp ?_ | refine Wq ?_ | refine Wr ?_); (try simp only [go_sem, fN, seval, eT, iR, hi_ne, lo_ne, hb, hi, hni, n1, n2, n3, n4, n5, n900, n901, hbi, hib, hbn, hnb, hin, hnj, dT, dF, nL]); (repeat with_reducible refine Ai ?_); (try (refine hK _ ?_; clear hK K)); (try with_reducible refine iC ?_)))
    have hl1 : (200 : Int) - ((k + 1 : Nat) : Int) = 200 - k - 1 := by omega
    have hok' : ∀ x y, Ghost C x y → LEnd (.v ((ns.length : Int) - 1 - kk)) (ldone S b i ni N ns (tailS s (lendA s at_)) (200 - k - 1)) y → Q .ret x := by
      rw [← hl1]
      exact hok rfl
    refine lend_to hok' _ i ns (.row i ns.length) rfl ?_ ?_ ?_ (by omega) (.inr ⟨rfl, rfl⟩) (List.take_length) ?_ hbn hni hb (.inl rfl) fun j j1 j2 j3 => ?_
    · simp only [go_sem, fN, seval, eT, iR, hi_ne, lo_ne, hb, hi, hni, n1, n2, n3, n4, n5, n900, n901, hbi, hib, hbn, hnb, hin, hnj]
      rfl
    · simp only [go_sem, fN, seval, eT, iR, hi_ne, lo_ne, hb, hi, hni, n1, n2, n3, n4, n5, n900, n901, hbi, hib, hbn, hnb, hin, hnj]
    · simp only [go_sem, fN, seval, eT, iR, hi_ne, lo_ne, hb, hi, hni, n1, n2, n3, n4, n5, n900, n901, hbi, hib, hbn, hnb, hin, hnj, si]
    · simp only [go_sem, fN, seval, eT, iR, hi_ne, lo_ne, hb, hi, hni, n1, n2, n3, n4, n5, n900, n901, hbi, hib, hbn, hnb, hin, hnj, sni]
    · simp only [go_sem, fN, seval, eT, iR, hi_ne, lo_ne, j1, j2, j3]

set_option maxRecDepth 100000 in
theorem term_lam {s : ByteArray} (hs : s.size ≤ 100000) {f : Nat} (hT : LT s f) {ns : List ByteArray} {at_ k b i ni N : Nat} {S : AStore} (hat : at_ ≤ s.size) (hk : k ≤ 200) (hf : 3 * (s.size - at_) + 2 < f + 1) (hN : ns.length + (s.size - at_) + 1 < N) (hN2 : N ≤ 1000000) (hb : 1000 ≤ b) (hi : 1000 ≤ i) (hni : 1000 ≤ ni)
    (sb : S b = some (boxL (tailS s at_) (.row i ns.length) (200 - k))) (si : S i = some (rowL ns)) (sni : S ni = none) (h0 : at_ < s.size ∧ byteAt s at_ = 92) {q : LRd} (hq : lrT s (f + 1) ns at_ k = q) : LRS 10 q S (ldone S b i ni N ns (tailS s q.i) (200 - q.k)) (lfail S b i N) b := by
  have hbi : ¬ b = i := fun e => by subst e; rw [sb] at si; cases si
  have hbn : ¬ b = ni := fun e => by subst e; rw [sb] at sni; cases sni
  have hin : ¬ i = ni := fun e => by subst e; rw [si] at sni; cases sni
  have hib : ¬ i = b := fun e => hbi e.symm
  have hnb : ¬ ni = b := fun e => hbn e.symm
  have hnj : ¬ ni = i := fun e => hin e.symm
  have hus := tail_size s at_
  refine lrs_of ok_metaprune_lambda_reader_term (by decide) (clean_ldone hb hi hni) (clean_lfail hb hi) fun hS C Q hC htop hok hpan => ?_
  have n1 : S 1 = none := clean_none hS (by omega)
  have n2 : S 2 = none := clean_none hS (by omega)
  have n3 : S 3 = none := clean_none hS (by omega)
  have n4 : S 4 = none := clean_none hS (by omega)
  have n5 : S 5 = none := clean_none hS (by omega)
  have n900 : S 900 = none := clean_none hS (by omega)
  have n901 : S 901 = none := clean_none hS (by omega)
  have ha := ahead_yes h0
  rw [lrT, if_pos h0] at hq
  obtain ⟨h0, h0'⟩ := h0
  have hdr := tail_drop (s := s) (i := at_) (n := 1) (by omega)
  have h1i : (1 : Int) ≤ (tailS s at_).size := by omega
  unfold ir_metaprune_lambda_reader_term
  repeat' (first | (with_reducible first | refine W ?_ | refine Wz0 ?_) | ((with_reducible first | refine Wx rfl (fun K hK => ?_) | refine Wp ?_ | refine Wq ?_ | refine Wr ?_); (try simp only [go_sem, fN, seval, eT, iR, AS.startS, hi_ne, lo_ne, hb, hi, hni, n1, n2, n3, n4, n5, n900, n901, hbi, hib, hbn, hnb, hin, hnj, dT, dF, nL]); (repeat with_reducible refine Ai ?_); (try (refine hK _ ?_; clear hK K)); (try with_reducible refine iC ?_)))
  refine ⟨_, _, lnext_at (s := s) (at_ := at_) (nm := .row (up1 i) ns.length) (l := 200 - k) (up1_le b) (up_boxL (by simp only [go_sem, fN, seval, eT, iR, hi_ne, lo_ne, hb, hi, hni, n1, n2, n3, n4, n5, n900, n901, hbi, hib, hbn, hnb, hin, hnj, sb])), ?_⟩
  by_cases hk2 : 200 < k + 1
  · rw [if_pos hk2] at hq
    subst hq
    repeat' (first | (with_reducible first | refine W ?_ | refine Wz0 ?_) | (first | refine IWP.opsPan 1 ⟨some 10, none, .callS 17 [.t 9], .no⟩ rfl (by kernel_rfl) ?_) | ((with_reducible first | refine Wx rfl (fun K hK => ?_) | refine Wp ?_ | refine Wq ?_ | refine Wr ?_); (try simp only [go_sem, fN, seval, eT, iR, hi_ne, lo_ne, hb, hi, hni, n1, n2, n3, n4, n5, n900, n901, hbi, hib, hbn, hnb, hin, hnj, ha, sb, dT, dF, nL]); (repeat with_reducible refine Ai ?_); (try (refine hK _ ?_; clear hK K)); (try with_reducible refine iC ?_)))
    simp only [go_sem, fN, seval, eT, iR, PanAt, List.take_succ_cons, List.take_zero, hi_ne, lo_ne, hb, hi, hni, n1, n2, n3, n4, n5, n900, n901, hbi, hib, hbn, hnb, hin, hnj]
    refine ⟨_, _, ltake_P (nm := .row (up1 i) ns.length) (u := tailS s at_) (l := 200 - k) (up1_le b) (high_row (up1_le i)) (up_boxL (by simp only [go_sem, fN, seval, eT, iR, hi_ne, lo_ne, hb, hi, hni, n1, n2, n3, n4, n5, n900, n901, hbi, hib, hbn, hnb, hin, hnj, sb])) (by omega) (by omega), fun envP => ?_⟩
    repeat' (with_reducible first | refine Wy ?_ | refine Wz ?_ | refine Wv ?_)
    refine pan_to hbi (hpan (by show ¬ (3 : Int) = 0; decide)) _ (.inr ?_) (.inl ⟨ns, ?_, by omega⟩) fun j j1 j2 j3 => ?_
    · simp only [go_sem, fN, seval, eT, iR, hi_ne, lo_ne, hb, hi, hni, n1, n2, n3, n4, n5, n900, n901, hbi, hib, hbn, hnb, hin, hnj]
    · simp only [go_sem, fN, seval, eT, iR, hi_ne, lo_ne, hb, hi, hni, n1, n2, n3, n4, n5, n900, n901, hbi, hib, hbn, hnb, hin, hnj, si]
    · simp only [go_sem, fN, seval, eT, iR, hi_ne, lo_ne, j1, j2, j3]
  rw [if_neg hk2] at hq
  repeat' (first | (with_reducible first | refine W ?_ | refine Wz0 ?_) | ((with_reducible first | refine Wx rfl (fun K hK => ?_) | refine Wp ?_ | refine Wq ?_ | refine Wr ?_); (try simp only [go_sem, fN, seval, eT, iR, hi_ne, lo_ne, hb, hi, hni, n1, n2, n3, n4, n5, n900, n901, hbi, hib, hbn, hnb, hin, hnj, ha, sb, dT, dF, nL]); (repeat with_reducible refine Ai ?_); (try (refine hK _ ?_; clear hK K)); (try with_reducible refine iC ?_)))
  refine ⟨_, _, ltake_S (nm := .row (up1 i) ns.length) (u := tailS s at_) (l := 200 - k) (up1_le b) (high_row (up1_le i)) (up_boxL (by simp only [go_sem, fN, seval, eT, iR, hi_ne, lo_ne, hb, hi, hni, n1, n2, n3, n4, n5, n900, n901, hbi, hib, hbn, hnb, hin, hnj, sb])) (by omega) (by omega), ?_⟩
  obtain ⟨m1, m2, m3, m4⟩ := nmErr_ok (s := s) (i := at_ + 1) (by omega)
  by_cases he : nmErr s (at_ + 1) = 0
  case neg =>
    rw [if_neg he] at hq
    subst hq
    repeat' (first | (with_reducible first | refine W ?_ | refine Wz0 ?_) | (first | refine IWP.opsPan 1 ⟨some 20, none, .callS 18 [.t 19], .no⟩ rfl (by kernel_rfl) ?_) | ((with_reducible first | refine Wx rfl (fun K hK => ?_) | refine Wp ?_ | refine Wq ?_ | refine Wr ?_); (try simp only [go_sem, fN, seval, eT, iR, hi_ne, lo_ne, hb, hi, hni, n1, n2, n3, n4, n5, n900, n901, hbi, hib, hbn, hnb, hin, hnj, hdr, h1i, sb, dT, dF, nL]); (repeat with_reducible refine Ai ?_); (try (refine hK _ ?_; clear hK K)); (try with_reducible refine iC ?_)))
    simp only [go_sem, fN, seval, eT, iR, PanAt, List.take_succ_cons, List.take_zero, hi_ne, lo_ne, hb, hi, hni, n1, n2, n3, n4, n5, n900, n901, hbi, hib, hbn, hnb, hin, hnj]
    refine ⟨_, _, lname_pan (nm := .row (up1 i) ns.length) (l := 200 - k - 1) hs (by omega) (up1_le b) (up_boxL (by simp only [go_sem, fN, seval, eT, iR, hi_ne, lo_ne, hb, hi, hni, n1, n2, n3, n4, n5, n900, n901, hbi, hib, hbn, hnb, hin, hnj, sb])) he, fun envP => ?_⟩
    repeat' (with_reducible first | refine Wy ?_ | refine Wz ?_ | refine Wv ?_)
    refine pan_to hbi (hpan he) _ (.inr ?_) (.inl ⟨ns, ?_, by omega⟩) fun j j1 j2 j3 => ?_
    · simp only [go_sem, fN, seval, eT, iR, hi_ne, lo_ne, hb, hi, hni, n1, n2, n3, n4, n5, n900, n901, hbi, hib, hbn, hnb, hin, hnj]
    · simp only [go_sem, fN, seval, eT, iR, hi_ne, lo_ne, hb, hi, hni, n1, n2, n3, n4, n5, n900, n901, hbi, hib, hbn, hnb, hin, hnj, si]
    · simp only [go_sem, fN, seval, eT, iR, hi_ne, lo_ne, j1, j2, j3]
  rw [if_pos he] at hq
  obtain ⟨m5, m6⟩ := m4 he
  repeat' (first | (with_reducible first | refine W ?_ | refine Wz0 ?_) | ((with_reducible first | refine Wx rfl (fun K hK => ?_) | refine Wp ?_ | refine Wq ?_ | refine Wr ?_); (try simp only [go_sem, fN, seval, eT, iR, hi_ne, lo_ne, hb, hi, hni, n1, n2, n3, n4, n5, n900, n901, hbi, hib, hbn, hnb, hin, hnj, hdr, h1i, sb, dT, dF, nL]); (repeat with_reducible refine Ai ?_); (try (refine hK _ ?_; clear hK K)); (try with_reducible refine iC ?_)))
  refine ⟨_, _, lname_at (nm := .row (up1 i) ns.length) (l := 200 - k - 1) hs (by omega) (up1_le b) (high_row (up1_le i)) (up_boxL (by simp only [go_sem, fN, seval, eT, iR, hi_ne, lo_ne, hb, hi, hni, n1, n2, n3, n4, n5, n900, n901, hbi, hib, hbn, hnb, hin, hnj, sb])) he, ?_⟩
  obtain ⟨nm, hnm⟩ : ∃ nm, nmAt s (at_ + 1) = nm := ⟨_, rfl⟩
  rw [hnm] at hq m6 ⊢
  generalize lendA s (at_ + 1) = j1 at *
  by_cases hw : wantE s 46 j1 = 0
  case neg =>
    rw [if_neg hw] at hq
    subst hq
    repeat' (first | (with_reducible first | refine W ?_ | refine Wz0 ?_) | (first | refine IWP.opsPan 1 ⟨some 22, none, .callS 19 [.t 21, .c (.one (.st (.int .u8 46)))], .no⟩ rfl (by kernel_rfl) ?_) | ((with_reducible first | refine Wx rfl (fun K hK => ?_) | refine Wp ?_ | refine Wq ?_ | refine Wr ?_); (try simp only [go_sem, fN, seval, eT, iR, hi_ne, lo_ne, hb, hi, hni, n1, n2, n3, n4, n5, n900, n901, hbi, hib, hbn, hnb, hin, hnj, sb, dT, dF, nL]); (repeat with_reducible refine Ai ?_); (try (refine hK _ ?_; clear hK K)); (try with_reducible refine iC ?_)))
    simp only [go_sem, fN, seval, eT, iR, PanAt, List.take_succ_cons, List.take_zero, hi_ne, lo_ne, hb, hi, hni, n1, n2, n3, n4, n5, n900, n901, hbi, hib, hbn, hnb, hin, hnj]
    refine ⟨_, _, lsign_pan (c := 46) (nm := .row (up1 i) ns.length) (l := 200 - k - 1) m3 (up1_le b) (up_boxL (by simp only [go_sem, fN, seval, eT, iR, hi_ne, lo_ne, hb, hi, hni, n1, n2, n3, n4, n5, n900, n901, hbi, hib, hbn, hnb, hin, hnj])) hw, fun envP => ?_⟩
    repeat' (with_reducible first | refine Wy ?_ | refine Wz ?_ | refine Wv ?_)
    refine pan_to hbi (hpan hw) _ (.inr ?_) (.inl ⟨ns, ?_, by omega⟩) fun j j1 j2 j3 => ?_
    · simp only [go_sem, fN, seval, eT, iR, hi_ne, lo_ne, hb, hi, hni, n1, n2, n3, n4, n5, n900, n901, hbi, hib, hbn, hnb, hin, hnj]
    · simp only [go_sem, fN, seval, eT, iR, hi_ne, lo_ne, hb, hi, hni, n1, n2, n3, n4, n5, n900, n901, hbi, hib, hbn, hnb, hin, hnj, si]
    · simp only [go_sem, fN, seval, eT, iR, hi_ne, lo_ne, j1, j2, j3]
  rw [if_pos hw] at hq
  have w1 := ((wantE_ok m3).2 hw).1
  repeat' (first | (with_reducible first | refine W ?_ | refine Wz0 ?_) | ((with_reducible first | refine Wx rfl (fun K hK => ?_) | refine Wp ?_ | refine Wq ?_ | refine Wr ?_); (try simp only [go_sem, fN, seval, eT, iR, hi_ne, lo_ne, hb, hi, hni, n1, n2, n3, n4, n5, n900, n901, hbi, hib, hbn, hnb, hin, hnj, sb, dT, dF, nL]); (repeat with_reducible refine Ai ?_); (try (refine hK _ ?_; clear hK K)); (try with_reducible refine iC ?_)))
  refine ⟨_, _, lsign_at (c := 46) (nm := .row (up1 i) ns.length) (l := 200 - k - 1) m3 (up1_le b) (high_row (up1_le i)) (up_boxL (by simp only [go_sem, fN, seval, eT, iR, hi_ne, lo_ne, hb, hi, hni, n1, n2, n3, n4, n5, n900, n901, hbi, hib, hbn, hnb, hin, hnj])) hw, ?_⟩
  have hlen : (ns ++ [nm]).length = ns.length + 1 := by simp
  have hmap : (ns ++ [nm]).map encS = ns.map encS ++ [[.str nm]] := by simp [encS]
  have hml : (ns.map encS).length = ns.length := by simp
  have hl1 : (200 : Int) - ((k + 1 : Nat) : Int) = 200 - k - 1 := by omega
  have hc := hT (ns ++ [nm]) (j1 + 1) (k + 1) (up1 b) (up1 i) (up1 900) N
  rw [hlen, hl1] at hc
  by_cases ht : (lrT s f (ns ++ [nm]) (j1 + 1) (k + 1)).e = 0
  case neg =>
    have hqe : q.e = (lrT s f (ns ++ [nm]) (j1 + 1) (k + 1)).e := by rw [← hq]
    rw [hqe] at hpan
    clear hq
    repeat' (first | (with_reducible first | refine W ?_ | refine Wz0 ?_) | (first | refine IWP.opsPan 1 ⟨some 34, none, .callS 10 [.t 33], .no⟩ rfl (by kernel_rfl) ?_) | ((with_reducible first | refine Wx rfl (fun K hK => ?_) | refine Wp ?_ | refine Wq ?_ | refine Wr ?_); (try simp only [go_sem, fN, seval, eT, iR, hi_ne, lo_ne, hb, hi, hni, n1, n2, n3, n4, n5, n900, n901, hbi, hib, hbn, hnb, hin, hnj, sb, si, hml, dT, dF, nL]); (repeat with_reducible refine Ai ?_); (try (refine hK _ ?_; clear hK K)); (try with_reducible refine iC ?_)))
    simp only [go_sem, fN, seval, eT, iR, PanAt, List.take_succ_cons, List.take_zero, hi_ne, lo_ne, hb, hi, hni, n1, n2, n3, n4, n5, n900, n901, hbi, hib, hbn, hnb, hin, hnj]
    refine ⟨_, _, (hc _ (by omega) (by omega) (by omega) (by omega) hN2 (up1_le b) (up1_le i) (up1_le 900) (up_boxL (by simp only [go_sem, fN, seval, eT, iR, hi_ne, lo_ne, hb, hi, hni, n1, n2, n3, n4, n5, n900, n901, hbi, hib, hbn, hnb, hin, hnj, sb])) (up_rowL (by simp only [go_sem, fN, seval, eT, iR, hi_ne, lo_ne, hb, hi, hni, n1, n2, n3, n4, n5, n900, n901, hbi, hib, hbn, hnb, hin, hnj, hmap, rowL])) (up_none (by simp only [go_sem, fN, seval, eT, iR, hi_ne, lo_ne, hb, hi, hni, n1, n2, n3, n4, n5, n900, n901, hbi, hib, hbn, hnb, hin, hnj]))).2 ht, fun envP => ?_⟩
    repeat' (with_reducible first | refine Wy ?_ | refine Wz ?_ | refine Wv ?_)
    refine pan_to hbi (hpan ht) _ (.inr ?_) (.inr ?_) fun j j1 j2 j3 => ?_
    · simp only [go_sem, fN, seval, eT, iR, dn_lfail, lfail, hi_ne, lo_ne, hb, hi, hni, n1, n2, n3, n4, n5, n900, n901, hbi, hib, hbn, hnb, hin, hnj]
    · simp only [go_sem, fN, seval, eT, iR, dn_lfail, lfail, hi_ne, lo_ne, hb, hi, hni, n1, n2, n3, n4, n5, n900, n901, hbi, hib, hbn, hnb, hin, hnj]
    · simp only [go_sem, fN, seval, eT, iR, dn_lfail, lfail, hi_ne, lo_ne, j1, j2, j3]
  repeat' (first | (with_reducible first | refine W ?_ | refine Wz0 ?_) | ((with_reducible first | refine Wx rfl (fun K hK => ?_) | refine Wp ?_ | refine Wq ?_ | refine Wr ?_); (try simp only [go_sem, fN, seval, eT, iR, hi_ne, lo_ne, hb, hi, hni, n1, n2, n3, n4, n5, n900, n901, hbi, hib, hbn, hnb, hin, hnj, sb, si, hml, dT, dF, nL]); (repeat with_reducible refine Ai ?_); (try (refine hK _ ?_; clear hK K)); (try with_reducible refine iC ?_)))
  refine ⟨_, _, (hc _ (by omega) (by omega) (by omega) (by omega) hN2 (up1_le b) (up1_le i) (up1_le 900) (up_boxL (by simp only [go_sem, fN, seval, eT, iR, hi_ne, lo_ne, hb, hi, hni, n1, n2, n3, n4, n5, n900, n901, hbi, hib, hbn, hnb, hin, hnj, sb])) (up_rowL (by simp only [go_sem, fN, seval, eT, iR, hi_ne, lo_ne, hb, hi, hni, n1, n2, n3, n4, n5, n900, n901, hbi, hib, hbn, hnb, hin, hnj, hmap, rowL])) (up_none (by simp only [go_sem, fN, seval, eT, iR, hi_ne, lo_ne, hb, hi, hni, n1, n2, n3, n4, n5, n900, n901, hbi, hib, hbn, hnb, hin, hnj]))).1 ht, ?_⟩
  generalize lrT s f (ns ++ [nm]) (j1 + 1) (k + 1) = p at *
  subst hq
  have hl2 : ((ns ++ [nm]).map encS).length = ns.length + 1 := by simp
  have hl3 : (((ns.length + 1 : Nat) : Int) - 1).toNat = ns.length := by omega
  repeat' (first | (with_reducible first | refine W ?_ | refine Wz0 ?_) | refine Cg _ (lL_a p.t) ?_ | ((with_reducible first | refine Wx rfl (fun K hK => ?_) | refine Wp ?_ | refine Wq ?_ | refine Wr ?_); (try simp only [go_sem, fN, seval, eT, iR, dn_ldone, ldone, hi_ne, lo_ne, hb, hi, hni, n1, n2, n3, n4, n5, n900, n901, hbi, hib, hbn, hnb, hin, hnj, hlen, hl2, hl3, dT, dF, nL]); (repeat with_reducible refine Ai ?_); (try (refine hK _ ?_; clear hK K)); (try with_reducible refine iC ?_)))
  refine lend_to (hok ht) _ 900 (ns ++ [nm]) (.part 900 ns.length (ns ++ [nm]).length) rfl ?_ ?_ ?_ (by omega) (.inl rfl) (by simp) ?_ hbn hni hb (.inr ⟨by decide, ?_, hin, hib⟩) fun j j1 j2 j3 => ?_
  · simp only [go_sem, fN, seval, eT, iR, hi_ne, lo_ne, hb, hi, hni, n1, n2, n3, n4, n5, n900, n901, hbi, hib, hbn, hnb, hin, hnj]
  · simp only [go_sem, fN, seval, eT, iR, hi_ne, lo_ne, hb, hi, hni, n1, n2, n3, n4, n5, n900, n901, hbi, hib, hbn, hnb, hin, hnj, hlen]
  · simp only [go_sem, fN, seval, eT, iR, hi_ne, lo_ne, hb, hi, hni, n1, n2, n3, n4, n5, n900, n901, hbi, hib, hbn, hnb, hin, hnj]
  · simp only [go_sem, fN, seval, eT, iR, hi_ne, lo_ne, hb, hi, hni, n1, n2, n3, n4, n5, n900, n901, hbi, hib, hbn, hnb, hin, hnj, sni]
  · simp only [go_sem, fN, seval, eT, iR, hi_ne, lo_ne, hb, hi, hni, n1, n2, n3, n4, n5, n900, n901, hbi, hib, hbn, hnb, hin, hnj]
  · simp only [go_sem, fN, seval, eT, iR, hi_ne, lo_ne, j1, j2, j3]

set_option maxRecDepth 100000 in
theorem term_app {s : ByteArray} (hs : s.size ≤ 100000) {f : Nat} (hP : ∀ g, g ≤ f → LPc s g) {ns : List ByteArray} {at_ k b i ni N : Nat} {S : AStore} (hat : at_ ≤ s.size) (hk : k ≤ 200) (hf : 3 * (s.size - at_) + 2 < f + 1) (hN : ns.length + (s.size - at_) + 1 < N) (hN2 : N ≤ 1000000) (hb : 1000 ≤ b) (hi : 1000 ≤ i) (hni : 1000 ≤ ni)
    (sb : S b = some (boxL (tailS s at_) (.row i ns.length) (200 - k))) (si : S i = some (rowL ns)) (sni : S ni = none) (h0 : ¬ (at_ < s.size ∧ byteAt s at_ = 92)) {q : LRd} (hq : lrT s (f + 1) ns at_ k = q) : LRS 10 q S (ldone S b i ni N ns (tailS s q.i) (200 - q.k)) (lfail S b i N) b := by
  have hbi : ¬ b = i := fun e => by subst e; rw [sb] at si; cases si
  have hbn : ¬ b = ni := fun e => by subst e; rw [sb] at sni; cases sni
  have hin : ¬ i = ni := fun e => by subst e; rw [si] at sni; cases sni
  have hib : ¬ i = b := fun e => hbi e.symm
  have hnb : ¬ ni = b := fun e => hbn e.symm
  have hnj : ¬ ni = i := fun e => hin e.symm
  refine lrs_of ok_metaprune_lambda_reader_term (by decide) (clean_ldone hb hi hni) (clean_lfail hb hi) fun hS C Q hC htop hok hpan => ?_
  have n1 : S 1 = none := clean_none hS (by omega)
  have n2 : S 2 = none := clean_none hS (by omega)
  have n3 : S 3 = none := clean_none hS (by omega)
  have n4 : S 4 = none := clean_none hS (by omega)
  have n5 : S 5 = none := clean_none hS (by omega)
  have n900 : S 900 = none := clean_none hS (by omega)
  have n901 : S 901 = none := clean_none hS (by omega)
  have ha := ahead_no (c := 92) (by decide) h0
  rw [lrT, if_neg h0] at hq
  unfold ir_metaprune_lambda_reader_term
  repeat' (first | (with_reducible first | refine W ?_ | refine Wz0 ?_) | ((with_reducible first | refine Wx rfl (fun K hK => ?_) | refine Wp ?_ | refine Wq ?_ | refine Wr ?_); (try simp only [go_sem, fN, seval, eT, iR, AS.startS, hi_ne, lo_ne, hb, hi, hni, n1, n2, n3, n4, n5, n900, n901, hbi, hib, hbn, hnb, hin, hnj, dT, dF, nL]); (repeat with_reducible refine Ai ?_); (try (refine hK _ ?_; clear hK K)); (try with_reducible refine iC ?_)))
  refine ⟨_, _, lnext_at (s := s) (at_ := at_) (nm := .row (up1 i) ns.length) (l := 200 - k) (up1_le b) (up_boxL (by simp only [go_sem, fN, seval, eT, iR, hi_ne, lo_ne, hb, hi, hni, n1, n2, n3, n4, n5, n900, n901, hbi, hib, hbn, hnb, hin, hnj, sb])), ?_⟩
  have hpo := lrP_ok s f ns at_ k hat hk (by omega)
  have hc := hP f (Nat.le_refl _) ns at_ k (up1 b) (up1 i) (up1 (300 + (lrP s f ns at_ k).k)) N
  by_cases he : (lrP s f ns at_ k).e = 0
  case neg =>
    have hq' : q = lrP s f ns at_ k := by rw [← hq]; exact lrL_bad (by omega) fun h => he h.1
    subst hq'
    repeat' (first | (with_reducible first | refine W ?_ | refine Wz0 ?_) | (first | refine IWP.opsPan 1 ⟨some 52, none, .callS 21 [.t 51], .no⟩ rfl (by kernel_rfl) ?_) | ((with_reducible first | refine Wx rfl (fun K hK => ?_) | refine Wp ?_ | refine Wq ?_ | refine Wr ?_); (try simp only [go_sem, fN, seval, eT, iR, hi_ne, lo_ne, hb, hi, hni, n1, n2, n3, n4, n5, n900, n901, hbi, hib, hbn, hnb, hin, hnj, ha, sb, dT, dF, nL]); (repeat with_reducible refine Ai ?_); (try (refine hK _ ?_; clear hK K)); (try with_reducible refine iC ?_)))
    simp only [go_sem, fN, seval, eT, iR, PanAt, List.take_succ_cons, List.take_zero, hi_ne, lo_ne, hb, hi, hni, n1, n2, n3, n4, n5, n900, n901, hbi, hib, hbn, hnb, hin, hnj]
    have hm := hpo.most
    have hc2 := hP f (Nat.le_refl _) ns at_ k (up1 b) (up1 i) (up1 900) N
    refine ⟨_, _, (hc2 _ hat hk (by omega) (by omega) hN2 (up1_le b) (up1_le i) (up1_le _) (up_boxL (by simp only [go_sem, fN, seval, eT, iR, hi_ne, lo_ne, hb, hi, hni, n1, n2, n3, n4, n5, n900, n901, hbi, hib, hbn, hnb, hin, hnj, sb])) (up_rowL (by simp only [go_sem, fN, seval, eT, iR, hi_ne, lo_ne, hb, hi, hni, n1, n2, n3, n4, n5, n900, n901, hbi, hib, hbn, hnb, hin, hnj, si])) (up_none (by simp only [go_sem, fN, seval, eT, iR, hi_ne, lo_ne, hb, hi, hni, n1, n2, n3, n4, n5, n900, n901, hbi, hib, hbn, hnb, hin, hnj]))).2 he, fun envP => ?_⟩
    repeat' (with_reducible first | refine Wy ?_ | refine Wz ?_ | refine Wv ?_)
    refine pan_to hbi (hpan he) _ (.inr ?_) (.inr ?_) fun j j1 j2 j3 => ?_
    · simp only [go_sem, fN, seval, eT, iR, dn_lfail, lfail, hi_ne, lo_ne, hb, hi, hni, n1, n2, n3, n4, n5, n900, n901, hbi, hib, hbn, hnb, hin, hnj]
    · simp only [go_sem, fN, seval, eT, iR, dn_lfail, lfail, hi_ne, lo_ne, hb, hi, hni, n1, n2, n3, n4, n5, n900, n901, hbi, hib, hbn, hnb, hin, hnj]
    · simp only [go_sem, fN, seval, eT, iR, dn_lfail, lfail, hi_ne, lo_ne, j1, j2, j3]
  obtain ⟨o1, o2, o3, o4⟩ := hpo.ok he
  obtain ⟨p, hp⟩ : ∃ p, lrP s f ns at_ k = p := ⟨_, rfl⟩
  rw [hp] at hc hq he o1 o2 o3 o4
  have hlow : ∀ j, j ≤ 201 → S (300 + j) = none := fun j hj => clean_none hS (by omega)
  have l1 : 300 + p.k < 1000 := by omega
  have l2 : ¬ 300 + p.k = 2 := by omega
  have l5 : ¬ 300 + p.k = 5 := by omega
  have k2 : ¬ 2 = 300 + p.k := by omega
  have k5 : ¬ 5 = 300 + p.k := by omega
  have hpn : S (300 + p.k) = none := hlow p.k (by omega)
  repeat' (first | (with_reducible first | refine W ?_ | refine Wz0 ?_) | ((with_reducible first | refine Wx rfl (fun K hK => ?_) | refine Wp ?_ | refine Wq ?_ | refine Wr ?_); (try simp only [go_sem, fN, seval, eT, iR, hi_ne, lo_ne, hb, hi, hni, n1, n2, n3, n4, n5, n900, n901, hbi, hib, hbn, hnb, hin, hnj, ha, sb, dT, dF, nL]); (repeat with_reducible refine Ai ?_); (try (refine hK _ ?_; clear hK K)); (try with_reducible refine iC ?_)))
  refine ⟨_, _, (hc _ hat hk (by omega) (by omega) hN2 (up1_le b) (up1_le i) (up1_le _) (up_boxL (by simp only [go_sem, fN, seval, eT, iR, hi_ne, lo_ne, hb, hi, hni, n1, n2, n3, n4, n5, n900, n901, hbi, hib, hbn, hnb, hin, hnj, sb])) (up_rowL (by simp only [go_sem, fN, seval, eT, iR, hi_ne, lo_ne, hb, hi, hni, n1, n2, n3, n4, n5, n900, n901, hbi, hib, hbn, hnb, hin, hnj, si])) (up_none (by simp only [go_sem, fN, seval, eT, iR, hi_ne, lo_ne, hb, hi, hni, n1, n2, n3, n4, n5, n900, n901, hbi, hib, hbn, hnb, hin, hnj, l1, l2, l5, hpn]))).1 he, ?_⟩
  repeat' (first | (with_reducible first | refine W ?_ | refine Wz0 ?_) | ((with_reducible first | refine Wx rfl (fun K hK => ?_) | refine Wp ?_ | refine Wq ?_ | refine Wr ?_); (try simp only [go_sem, fN, seval, eT, iR, dn_ldone, ldone, hi_ne, lo_ne, hb, hi, hni, n1, n2, n3, n4, n5, n900, n901, hbi, hib, hbn, hnb, hin, hnj, l1, l2, l5, k2, k5, sb, dT, dF, nL]); (repeat with_reducible refine Ai ?_); (try (refine hK _ ?_; clear hK K)); (try with_reducible refine iC ?_)))
  refine IWP.loop (fun m x => ∃ (p : LRd) (g : Nat), lrL s g ns p = q ∧ m = s.size - p.i ∧ p.e = 0 ∧ p.i ≤ s.size ∧ p.k ≤ 200 ∧ at_ < p.i ∧ 3 * (s.size - p.i) < g ∧ g ≤ f ∧ x.env 0 = .one (.ptr b 1 0 0) ∧ x.env 2 = .one (.ptr 2 1 0 0) ∧ x.env 5 = .one (.ptr 5 1 0 0) ∧ x.S 2 = some (.box 25 [.st (.int .i64 0), .st (.int .i64 0), .full []]) ∧ x.S 5 = some (.box 25 [.st (.int .i64 p.t.kind), .st (.int .i64 p.t.idx), .st (.list (p.t.subs.map encL))]) ∧
    x.S b = some (boxL (tailS s p.i) (.row (300 + p.k) ns.length) (200 - p.k)) ∧ x.S (300 + p.k) = some (rowL ns) ∧ x.S i = some (.dead N 1) ∧ (∀ j, p.k < j → j ≤ 201 → x.S (300 + j) = none) ∧ ∀ j, 1000 ≤ j → j ≠ b → j ≠ i → x.S j = S j) (s.size - p.i) ⟨p, f, hq, rfl, he, o1, o4, o2, by omega, Nat.le_refl _, ?_⟩ ?_
  · simp only [go_sem, fN, seval, eT, iR, hi_ne, lo_ne, hb, hi, hni, n1, n2, n3, n4, n5, n900, n901, hbi, hib, hbn, hnb, hin, hnj, l1, l2, l5, k2, k5, AS.startS]
    refine ⟨fun j j1 j2 => ?_, fun j j1 j2 j3 => ?_⟩
    · have h1 : ¬ 300 + j = 5 := by omega
      have h2 : ¬ 300 + j = 2 := by omega
      have h3 : ¬ 300 + j = 300 + p.k := by omega
      have h4 : ¬ 300 + j = b := by omega
      have h5 : ¬ 300 + j = i := by omega
      have h6 := hlow j j2
      simp only [go_sem, fN, seval, eT, iR, h1, h2, h3, h4, h5, h6]
    · have h3 : ¬ j = 300 + p.k := by omega
      simp only [go_sem, fN, seval, eT, iR, hi_ne, lo_ne, j1, j2, j3, h3]
  clear hc hp hlow l1 l2 l5 k2 k5 hpn he o1 o2 o3 o4 hq hpo
  clear p
  rintro m ⟨env, S1⟩ ⟨p, g, hq, rfl, he, o1, o4, o2, hg, hgf, v0, v2, v5, t2, t5, tb, tk, ti, tn, hrest⟩
  simp only at v0 v2 v5 t2 t5 tb tk ti tn hrest
  have l1 : 300 + p.k < 1000 := by omega
  have l2 : ¬ 300 + p.k = 2 := by omega
  have l5 : ¬ 300 + p.k = 5 := by omega
  have k2 : ¬ 2 = 300 + p.k := by omega
  have k5 : ¬ 5 = 300 + p.k := by omega
  have kb : ¬ b = 300 + p.k := by omega
  have ki : ¬ i = 300 + p.k := by omega
  have lb : ¬ 300 + p.k = b := by omega
  have li : ¬ 300 + p.k = i := by omega
  obtain ⟨g, rfl⟩ : ∃ g', g = g' + 1 := ⟨g - 1, by omega⟩
  have tni : S1 ni = none := by rw [hrest ni hni (by omega) (by omega)]; exact sni
  repeat' (first | (with_reducible first | refine W ?_ | refine Wz0 ?_) | ((with_reducible first | refine Wx rfl (fun K hK => ?_) | refine Wp ?_ | refine Wq ?_ | refine Wr ?_); (try simp only [go_sem, fN, seval, eT, iR, v0, hi_ne, lo_ne, hb, hi, hni, n1, n2, n3, n4, n5, n900, n901, hbi, hib, hbn, hnb, hin, hnj, dT, dF, nL]); (repeat with_reducible refine Ai ?_); (try (refine hK _ ?_; clear hK K)); (try with_reducible refine iC ?_)))
  refine ⟨_, _, lnext_at (s := s) (at_ := p.i) (nm := .row (up1 (300 + p.k)) ns.length) (l := 200 - p.k) (up1_le b) (up_boxL (by simp only [go_sem, fN, seval, eT, iR, hi_ne, lo_ne, hb, hi, hni, n1, n2, n3, n4, n5, n900, n901, hbi, hib, hbn, hnb, hin, hnj, tb])), ?_⟩
  by_cases h1 : p.i < s.size ∧ byteAt s p.i = 32
  case neg =>
    have ha1 := ahead_no (c := 32) (by decide) h1
    have hq' : p = q := by rw [← hq]; exact (lrL_bad (Nat.succ_pos _) fun h => h1 h.2).symm
    subst hq'
    repeat' (first | (with_reducible first | refine W ?_ | refine Wz0 ?_) | ((with_reducible first | refine Wx rfl (fun K hK => ?_) | refine Wp ?_ | refine Wq ?_ | refine Wr ?_); (try simp only [go_sem, fN, seval, eT, iR, v0, v2, v5, hi_ne, lo_ne, hb, hi, hni, n1, n2, n3, n4, n5, n900, n901, hbi, hib, hbn, hnb, hin, hnj, ha1, tb, t2, t5, dT, dF, nL]); (repeat with_reducible refine Ai ?_); (try (refine hK _ ?_; clear hK K)); (try with_reducible refine iC ?_)))
    refine lend_to (hok he) _ (300 + p.k) ns (.row (300 + p.k) ns.length) ?_ ?_ ?_ ?_ (by omega) (.inr ⟨rfl, rfl⟩) (List.take_length) ?_ hbn hni hb (.inr ⟨l1, ?_, hin, hib⟩) fun j j1 j2 j3 => ?_
    · simp only [go_sem, fN, seval, eT, iR, v2]
    · simp only [go_sem, fN, seval, eT, iR, hi_ne, lo_ne, hb, hi, hni, n1, n2, n3, n4, n5, n900, n901, hbi, hib, hbn, hnb, hin, hnj]
    · simp only [go_sem, fN, seval, eT, iR, hi_ne, lo_ne, hb, hi, hni, n1, n2, n3, n4, n5, n900, n901, hbi, hib, hbn, hnb, hin, hnj, tb]
    · simp only [go_sem, fN, seval, eT, iR, l2, tk]
    · simp only [go_sem, fN, seval, eT, iR, hi_ne, lo_ne, hb, hi, hni, n1, n2, n3, n4, n5, n900, n901, hbi, hib, hbn, hnb, hin, hnj, tni]
    · simp only [go_sem, fN, seval, eT, iR, hi_ne, lo_ne, hb, hi, hni, n1, n2, n3, n4, n5, n900, n901, hbi, hib, hbn, hnb, hin, hnj, ti]
    · have j4 : ¬ j = 2 := by omega
      simp only [go_sem, fN, seval, eT, iR, j4]
      exact hrest j j1 j2 j3
  case pos =>
  have ha1 := ahead_yes h1
  have hus1 := tail_size s p.i
  have hdr := tail_drop (s := s) (i := p.i) (n := 1) (by omega)
  have h1i : (1 : Int) ≤ (tailS s p.i).size := by omega
  rw [lrL, if_pos ⟨he, h1⟩] at hq
  by_cases hk2 : 200 < p.k + 1
  · rw [if_pos hk2] at hq
    subst hq
    repeat' (first | (with_reducible first | refine W ?_ | refine Wz0 ?_) | (first | refine IWP.opsPan 1 ⟨some 65, none, .callS 17 [.t 64], .no⟩ rfl (by kernel_rfl) ?_) | ((with_reducible first | refine Wx rfl (fun K hK => ?_) | refine Wp ?_ | refine Wq ?_ | refine Wr ?_); (try simp only [go_sem, fN, seval, eT, iR, v0, v2, v5, hi_ne, lo_ne, hb, hi, hni, n1, n2, n3, n4, n5, n900, n901, hbi, hib, hbn, hnb, hin, hnj, ha1, hdr, h1i, tb, t2, t5, dT, dF, nL]); (repeat with_reducible refine Ai ?_); (try (refine hK _ ?_; clear hK K)); (try with_reducible refine iC ?_)))
    simp only [go_sem, fN, seval, eT, iR, PanAt, List.take_succ_cons, List.take_zero, v0, hi_ne, lo_ne, hb, hi, hni, n1, n2, n3, n4, n5, n900, n901, hbi, hib, hbn, hnb, hin, hnj]
    refine ⟨_, _, ltake_P (nm := .row (up1 (300 + p.k)) ns.length) (u := tailS s (p.i + 1)) (l := 200 - p.k) (up1_le b) (high_row (up1_le _)) (up_boxL (by simp only [go_sem, fN, seval, eT, iR, hi_ne, lo_ne, hb, hi, hni, n1, n2, n3, n4, n5, n900, n901, hbi, hib, hbn, hnb, hin, hnj, tb])) (by omega) (by omega), fun envP => ?_⟩
    repeat' (with_reducible first | refine Wy ?_ | refine Wz ?_ | refine Wv ?_)
    refine pan_to hbi (hpan (by show ¬ (3 : Int) = 0; decide)) _ (.inr ?_) (.inr ?_) fun j j1 j2 j3 => ?_
    · simp only [go_sem, fN, seval, eT, iR, hi_ne, lo_ne, hb, hi, hni, n1, n2, n3, n4, n5, n900, n901, hbi, hib, hbn, hnb, hin, hnj]
    · simp only [go_sem, fN, seval, eT, iR, hi_ne, lo_ne, hb, hi, hni, n1, n2, n3, n4, n5, n900, n901, hbi, hib, hbn, hnb, hin, hnj, ti]
    · simp only [go_sem, fN, seval, eT, iR, hi_ne, lo_ne, hb, hi, hni, n1, n2, n3, n4, n5, n900, n901, hbi, hib, hbn, hnb, hin, hnj, j2]
      exact hrest j j1 j2 j3
  rw [if_neg hk2] at hq
  repeat' (first | (with_reducible first | refine W ?_ | refine Wz0 ?_) | ((with_reducible first | refine Wx rfl (fun K hK => ?_) | refine Wp ?_ | refine Wq ?_ | refine Wr ?_); (try simp only [go_sem, fN, seval, eT, iR, v0, v2, v5, hi_ne, lo_ne, hb, hi, hni, n1, n2, n3, n4, n5, n900, n901, hbi, hib, hbn, hnb, hin, hnj, ha1, hdr, h1i, tb, t2, t5, dT, dF, nL]); (repeat with_reducible refine Ai ?_); (try (refine hK _ ?_; clear hK K)); (try with_reducible refine iC ?_)))
  refine ⟨_, _, ltake_S (nm := .row (up1 (300 + p.k)) ns.length) (u := tailS s (p.i + 1)) (l := 200 - p.k) (up1_le b) (high_row (up1_le _)) (up_boxL (by simp only [go_sem, fN, seval, eT, iR, hi_ne, lo_ne, hb, hi, hni, n1, n2, n3, n4, n5, n900, n901, hbi, hib, hbn, hnb, hin, hnj, tb])) (by omega) (by omega), ?_⟩
  have hc := hP g (by omega) ns (p.i + 1) (p.k + 1) (up1 b) (up1 (300 + p.k))
  have hpo := lrP_ok s g ns (p.i + 1) (p.k + 1) (by omega) (by omega) (by omega)
  have hl1 : (200 : Int) - ((p.k + 1 : Nat) : Int) = 200 - p.k - 1 := by omega
  rw [hl1] at hc
  by_cases hr : (lrP s g ns (p.i + 1) (p.k + 1)).e = 0
  case neg =>
    have hq' := (lrL_bad (s := s) (g := g) (ns := ns) (q := ⟨.a p.t (lrP s g ns (p.i + 1) (p.k + 1)).t, (lrP s g ns (p.i + 1) (p.k + 1)).i, (lrP s g ns (p.i + 1) (p.k + 1)).k, (lrP s g ns (p.i + 1) (p.k + 1)).e⟩) (by omega) fun h => hr h.1).symm.trans hq
    subst hq'
    repeat' (first | (with_reducible first | refine W ?_ | refine Wz0 ?_) | (first | refine IWP.opsPan 2 ⟨some 68, none, .callS 21 [.t 67], .keeps [5]⟩ rfl (by kernel_rfl) ?_) | ((with_reducible first | refine Wx rfl (fun K hK => ?_) | refine Wp ?_ | refine Wq ?_ | refine Wr ?_); (try simp only [go_sem, fN, seval, eT, iR, v0, v2, v5, hi_ne, lo_ne, hb, hi, hni, n1, n2, n3, n4, n5, n900, n901, hbi, hib, hbn, hnb, hin, hnj, tb, t2, t5, dT, dF, nL]); (repeat with_reducible refine Ai ?_); (try (refine hK _ ?_; clear hK K)); (try with_reducible refine iC ?_)))
    simp only [go_sem, fN, seval, eT, iR, PanAt, List.take_succ_cons, List.take_zero, v0, v5, t5, hi_ne, lo_ne, hb, hi, hni, n1, n2, n3, n4, n5, n900, n901, hbi, hib, hbn, hnb, hin, hnj]
    have tn' := tn (p.k + 1) (by omega) (by omega)
    have kb' : ¬ 300 + (p.k + 1) = b := by omega
    refine ⟨_, _, (hc (up1 (300 + (p.k + 1))) N _ (by omega) (by omega) (by omega) (by omega) hN2 (up1_le b) (up1_le _) (up1_le _) (up_boxL (by simp only [go_sem, fN, seval, eT, iR, hi_ne, lo_ne, hb, hi, hni, n1, n2, n3, n4, n5, n900, n901, hbi, hib, hbn, hnb, hin, hnj, tb])) (up_rowL (by simp only [go_sem, fN, seval, eT, iR, lb, tk])) (up_none (by simp only [go_sem, fN, seval, eT, iR, kb', tn']))).2 hr, fun envP => ?_⟩
    repeat' (with_reducible first | refine Wy ?_ | refine Wz ?_ | refine Wv ?_)
    refine pan_to hbi (hpan hr) _ (.inr ?_) (.inr ?_) fun j j1 j2 j3 => ?_
    · simp only [go_sem, fN, seval, eT, iR, dn_lfail, lfail, hi_ne, lo_ne, hb, hi, hni, n1, n2, n3, n4, n5, n900, n901, hbi, hib, hbn, hnb, hin, hnj]
    · simp only [go_sem, fN, seval, eT, iR, dn_lfail, lfail, hi_ne, lo_ne, hb, hi, hni, n1, n2, n3, n4, n5, n900, n901, hbi, hib, hbn, hnb, hin, hnj, li, ki, ti]
    · have j4 : ¬ j = 300 + p.k := by omega
      simp only [go_sem, fN, seval, eT, iR, dn_lfail, lfail, hi_ne, lo_ne, j1, j2, j3, j4]
      exact hrest j j1 j2 j3
  obtain ⟨p1, hp1⟩ : ∃ p1, lrP s g ns (p.i + 1) (p.k + 1) = p1 := ⟨_, rfl⟩
  have hc := hc (up1 (300 + p1.k)) N
  rw [hp1] at hq hc hpo hr
  obtain ⟨r1, r2, r3, r4⟩ := hpo.ok hr
  have l1' : 300 + p1.k < 1000 := by omega
  have l2' : ¬ 300 + p1.k = 2 := by omega
  have l5' : ¬ 300 + p1.k = 5 := by omega
  have k2' : ¬ 2 = 300 + p1.k := by omega
  have k5' : ¬ 5 = 300 + p1.k := by omega
  have lb' : ¬ 300 + p1.k = b := by omega
  have li' : ¬ 300 + p1.k = i := by omega
  have kb' : ¬ b = 300 + p1.k := by omega
  have ki' : ¬ i = 300 + p1.k := by omega
  have ll' : ¬ 300 + p1.k = 300 + p.k := by omega
  have tn' := tn p1.k (by omega) (by omega)
  repeat' (first | (with_reducible first | refine W ?_ | refine Wz0 ?_) | ((with_reducible first | refine Wx rfl (fun K hK => ?_) | refine Wp ?_ | refine Wq ?_ | refine Wr ?_); (try simp only [go_sem, fN, seval, eT, iR, v0, v2, v5, hi_ne, lo_ne, hb, hi, hni, n1, n2, n3, n4, n5, n900, n901, hbi, hib, hbn, hnb, hin, hnj, tb, t2, t5, dT, dF, nL]); (repeat with_reducible refine Ai ?_); (try (refine hK _ ?_; clear hK K)); (try with_reducible refine iC ?_)))
  refine ⟨_, _, (hc _ (by omega) (by omega) (by omega) (by omega) hN2 (up1_le b) (up1_le _) (up1_le _) (up_boxL (by simp only [go_sem, fN, seval, eT, iR, hi_ne, lo_ne, hb, hi, hni, n1, n2, n3, n4, n5, n900, n901, hbi, hib, hbn, hnb, hin, hnj, tb])) (up_rowL (by simp only [go_sem, fN, seval, eT, iR, lb, tk])) (up_none (by simp only [go_sem, fN, seval, eT, iR, lb', tn']))).1 hr, ?_⟩
  repeat' (first | (with_reducible first | refine W ?_ | refine Wz0 ?_) | refine Cg _ (lA_a p.t p1.t) ?_ | ((with_reducible first | refine Wx rfl (fun K hK => ?_) | refine Wp ?_ | refine Wq ?_ | refine Wr ?_); (try simp only [go_sem, fN, seval, eT, iR, dn_ldone, ldone, v0, v2, v5, hi_ne, lo_ne, hb, hi, hni, n1, n2, n3, n4, n5, n900, n901, hbi, hib, hbn, hnb, hin, hnj, k5, k5', l5, l5', tb, t2, t5, List.forall_mem_singleton, dT, dF, nL]); (repeat with_reducible refine Ai ?_); (try (refine hK _ ?_; clear hK K)); (try with_reducible refine iC ?_)))
  refine then_normal ⟨s.size - p1.i, by omega, ⟨.a p.t p1.t, p1.i, p1.k, p1.e⟩, g, hq, rfl, hr, r1, r4, by show at_ < p1.i; omega, by show 3 * (s.size - p1.i) < g; omega, by omega, ?_⟩
  dsimp only
  simp only [go_sem, fN, seval, eT, iR, v0, v2, v5, hi_ne, lo_ne, hb, hi, hni, n1, n2, n3, n4, n5, n900, n901, hbi, hib, hbn, hnb, hin, hnj, k2, k2', k5, k5', l2, l2', l5, l5', lb, lb', li, li', kb', ki', t2, ll', ki, ti]
  refine ⟨fun j j1 j2 => ?_, fun j j1 j2 j3 => ?_⟩
  · have h1 : ¬ 300 + j = 5 := by omega
    have h3 : ¬ 300 + j = 300 + p.k := by omega
    have h3' : ¬ 300 + j = 300 + p1.k := by omega
    have h4 : ¬ 300 + j = b := by omega
    have h6 := tn j (by omega) j2
    simp only [go_sem, fN, seval, eT, iR, h1, h3, h3', h4, h6]
  · have h3 : ¬ j = 300 + p.k := by omega
    have h3' : ¬ j = 300 + p1.k := by omega
    simp only [go_sem, fN, seval, eT, iR, hi_ne, lo_ne, j1, j2, j3, h3, h3']
    exact hrest j j1 j2 j3
theorem lread_S {s : ByteArray} (hs : s.size ≤ 100000) : ∀ f, LT s f ∧ LPc s f := by
  intro f
  induction f using Nat.strongRecOn with
  | _ f ih =>
  cases f with
  | zero => exact ⟨fun _ _ _ _ _ _ _ _ _ _ h => absurd h (Nat.not_lt_zero _), fun _ _ _ _ _ _ _ _ _ _ h => absurd h (Nat.not_lt_zero _)⟩
  | succ f =>
    have hT := (ih f (Nat.lt_succ_self f)).1
    refine ⟨fun ns at_ k b i ni N S hat hk hf hN hN2 hb hi hni sb si sni => ?_, piece_S hs hT⟩
    by_cases h0 : at_ < s.size ∧ byteAt s at_ = 92
    · exact term_lam hs hT hat hk hf hN hN2 hb hi hni sb si sni h0 rfl
    · exact term_app hs (fun g hg => (ih g (by omega)).2) hat hk hf hN hN2 hb hi hni sb si sni h0 rfl

def ir_metaprune_R_state_is : IR :=
  (.seq (.ops [.i 4 (.mov (.c (.one (.st (.bool false)))))]) (.seq (.ops [.m 5 0, .i 6 (.nilCheck (.t 5)), .f 7 1 6, .l 8 7, .m 9 0, .i 10 (.nilCheck (.t 9)), .f 11 0 10, .l 12 11, .i 13 (.len true (.t 12)), .i 14 (.bin .lss (.t 8) (.t 13)), .m 15 14, .mk (some 16) (some (15, true)) (.mov (.t 0)) .no, .mk (some 17) (some (15, true)) (.nilCheck (.t 16)) .no, .mk (some 18) (some (15, true)) (.fieldAddr 0 (.t 17)) .no, .mk (some 19) (some (15, true)) (.load false 1 (.t 18)) .no, .mk (some 20) (some (15, true)) (.mov (.t 0)) .no, .mk (some 21) (some (15, true)) (.nilCheck (.t 20)) .no, .mk (some 22) (some (15, true)) (.fieldAddr 1 (.t 21)) .no, .mk (some 23) (some (15, true)) (.load false 1 (.t 22)) .no, .mk (some 24) (some (15, true)) (.indexStr (.t 19) (.t 23)) .no, .mk (some 25) (some (15, true)) (.mov (.t 1)) .no, .mk (some 26) (some (15, true)) (.bin .eql (.t 24) (.t 25)) .no, .i 27 (.pick (.t 15) (.t 26) (.c (.one (.st (.bool false))))), .m 4 27]) .ret))
theorem ok_metaprune_R_state_is : OkF Tryd.prog 25 28 [] ir_metaprune_R_state_is [.t 4] := .of Tryd.func25 rfl rfl (by kernel_rfl) rfl
def ir_metaprune_R_state_knot : IR :=
  (.seq (.ops [.m 2 0, .i 3 (.nilCheck (.t 2)), .f 4 2 3, .l 5 4, .i 6 (.bin .add (.t 5) (.n 1)), .i 7 (.nilCheck (.t 2)), .f 8 2 7, .s 1 8 6]) (.seq (.ops [.m 9 0, .i 10 (.nilCheck (.t 9)), .f 11 3 10, .l 12 11, .i 13 (.bin .eql (.t 12) (.n 0)), .m 14 13, .mk (some 15) (some (14, true)) (.mov (.t 0)) .no, .mk (some 16) (some (14, true)) (.nilCheck (.t 15)) .no, .mk (some 17) (some (14, true)) (.fieldAddr 2 (.t 16)) .no, .mk (some 18) (some (14, true)) (.load false 1 (.t 17)) .no, .mk (some 19) (some (14, true)) (.bin .gtr (.t 18) (.n 200)) .no, .i 20 (.pick (.t 14) (.t 19) (.c (.one (.st (.bool false)))))]) (.cond (.t 20) (.ops [.m 21 0, .i 22 (.nilCheck (.t 21)), .f 23 3 22, .mk none none (.store 1 (.t 23) (.n 3)) .no]) .skip)))
theorem ok_metaprune_R_state_knot : OkF Tryd.prog 26 24 [] ir_metaprune_R_state_knot [] := .of Tryd.func26 rfl rfl (by kernel_rfl) rfl
def ir_metaprune_R_state_name : IR :=
  (.seq (.ops [.i 2 (.mov (.c (.one (.st (.str (ByteArray.mk (#[])))))))]) (.seq (.seq (.ops [.m 5 0, .i 6 (.nilCheck (.t 5)), .f 7 3 6, .l 8 7, .i 9 (.bin .neq (.t 8) (.n 0))]) (.cond (.t 9) (.seq (.ops [.i 2 (.mov (.c (.one (.st (.str (ByteArray.mk (#[])))))))]) .ret) .skip)) (.seq (.ops [.m 10 0, .i 11 (.nilCheck (.t 10)), .f 12 1 11, .l 13 12, .m 3 13]) (.seq (.block 0 (.loop (.seq (.seq (.ops [.m 14 0, .i 15 (.nilCheck (.t 14)), .f 16 1 15, .l 17 16, .m 18 0, .i 19 (.nilCheck (.t 18)), .f 20 0 19, .l 21 20, .i 22 (.len true (.t 21)), .i 23 (.bin .lss (.t 17) (.t 22)), .m 24 23, .mk (some 25) (some (24, true)) (.mov (.t 0)) .no, .mk (some 26) (some (24, true)) (.nilCheck (.t 25)) .no, .mk (some 27) (some (24, true)) (.fieldAddr 0 (.t 26)) .no, .mk (some 28) (some (24, true)) (.load false 1 (.t 27)) .no, .mk (some 29) (some (24, true)) (.mov (.t 0)) .no, .mk (some 30) (some (24, true)) (.nilCheck (.t 29)) .no, .mk (some 31) (some (24, true)) (.fieldAddr 1 (.t 30)) .no, .mk (some 32) (some (24, true)) (.load false 1 (.t 31)) .no, .mk (some 33) (some (24, true)) (.indexStr (.t 28) (.t 32)) .no, .mk (some 34) (some (24, true)) (.call 39 [.t 33]) .no, .i 35 (.pick (.t 24) (.t 34) (.c (.one (.st (.bool false)))))]) (.cond (.t 35) .skip (.exit 0))) (.block 1 (.ops [.m 36 0, .i 37 (.nilCheck (.t 36)), .f 38 1 37, .l 39 38, .i 40 (.bin .add (.t 39) (.n 1)), .i 41 (.nilCheck (.t 36)), .f 42 1 41, .s 1 42 40]))))) (.seq (.ops [.m 43 0, .i 44 (.nilCheck (.t 43)), .f 45 0 44, .l 46 45, .m 47 3, .m 48 0, .i 49 (.nilCheck (.t 48)), .f 50 1 49, .l 51 50, .i 52 (.sliceS (.t 46) (some (.t 47)) (some (.t 51))), .m 4 52]) (.seq (.seq (.ops [.m 53 4, .i 54 (.bin .eql (.t 53) (.c (.one (.st (.str (ByteArray.mk (#[]))))))), .m 55 54, .mk (some 56) (some (55, true)) (.mov (.t 0)) .no, .mk (some 57) (some (55, true)) (.nilCheck (.t 56)) .no, .mk (some 58) (some (55, true)) (.fieldAddr 1 (.t 57)) .no, .mk (some 59) (some (55, true)) (.load false 1 (.t 58)) .no, .mk (some 60) (some (55, true)) (.mov (.t 0)) .no, .mk (some 61) (some (55, true)) (.nilCheck (.t 60)) .no, .mk (some 62) (some (55, true)) (.fieldAddr 0 (.t 61)) .no, .mk (some 63) (some (55, true)) (.load false 1 (.t 62)) .no, .mk (some 64) (some (55, true)) (.len true (.t 63)) .no, .mk (some 65) (some (55, true)) (.bin .eql (.t 59) (.t 64)) .no, .i 66 (.pick (.t 55) (.t 65) (.c (.one (.st (.bool false)))))]) (.cond (.t 66) (.ops [.m 67 0, .i 68 (.nilCheck (.t 67)), .f 69 3 68, .mk none none (.store 1 (.t 69) (.n 13)) .no]) (.seq (.ops [.m 70 4, .i 71 (.bin .eql (.t 70) (.c (.one (.st (.str (ByteArray.mk (#[])))))))]) (.cond (.t 71) (.ops [.m 72 0, .i 73 (.nilCheck (.t 72)), .f 74 3 73, .mk none none (.store 1 (.t 74) (.n 12)) .no]) (.seq (.ops [.m 75 4, .i 76 (.call 23 [.t 75]), .i 77 (.un .not (.t 76))]) (.cond (.t 77) (.ops [.m 78 0, .i 79 (.nilCheck (.t 78)), .f 80 3 79, .mk none none (.store 1 (.t 80) (.n 1)) .no]) .skip)))))) (.seq (.ops [.m 81 4, .m 2 81]) .ret)))))))
theorem ok_metaprune_R_state_name : OkF Tryd.prog 27 82 [] ir_metaprune_R_state_name [.t 2] := .of Tryd.func27 rfl rfl (by kernel_rfl) rfl
def ir_metaprune_R_state_want : IR :=
  (.seq (.seq (.ops [.m 4 0, .i 5 (.nilCheck (.t 4)), .f 6 3 5, .l 7 6, .i 8 (.bin .neq (.t 7) (.n 0))]) (.cond (.t 8) .ret .skip)) (.seq (.seq (.ops [.m 9 0, .i 10 (.nilCheck (.t 9)), .f 11 1 10, .l 12 11, .m 13 0, .i 14 (.nilCheck (.t 13)), .f 15 0 14, .l 16 15, .i 17 (.len true (.t 16)), .i 18 (.bin .eql (.t 12) (.t 17))]) (.cond (.t 18) (.ops [.m 19 0, .i 20 (.nilCheck (.t 19)), .f 21 3 20, .mk none none (.store 1 (.t 21) (.n 13)) .no]) (.seq (.ops [.m 22 0, .i 23 (.nilCheck (.t 22)), .f 24 0 23, .l 25 24, .m 26 0, .i 27 (.nilCheck (.t 26)), .f 28 1 27, .l 29 28, .i 30 (.indexStr (.t 25) (.t 29)), .m 31 1, .i 32 (.bin .neq (.t 30) (.t 31))]) (.cond (.t 32) (.ops [.m 33 0, .i 34 (.nilCheck (.t 33)), .f 35 3 34, .mk none none (.store 1 (.t 35) (.n 12)) .no]) .skip)))) (.ops [.m 36 0, .i 37 (.nilCheck (.t 36)), .f 38 1 37, .l 39 38, .i 40 (.bin .add (.t 39) (.n 1)), .i 41 (.nilCheck (.t 36)), .f 42 1 41, .s 1 42 40])))
theorem ok_metaprune_R_state_want : OkF Tryd.prog 28 43 [] ir_metaprune_R_state_want [] := .of Tryd.func28 rfl rfl (by kernel_rfl) rfl
def ir_metaprune_R_state_term : IR :=
  (.seq (.ops [.i 4 (.alloc 25 [.st (.int .i64 0), .st (.int .i64 0), .full []])]) (.seq (.seq (.ops [.m 7 0, .i 8 (.nilCheck (.t 7)), .f 9 3 8, .l 10 9, .i 11 (.bin .neq (.t 10) (.n 0))]) (.cond (.t 11) (.seq (.ops [.i 12 (.build [.st (.int .i64 0), .st (.int .i64 0), .full []] []), .s 3 4 12]) .ret) .skip)) (.seq (.seq (.ops [.m 13 0, .i 14 (.callS 25 [.t 13, .c (.one (.st (.int .u8 92)))])]) (.cond (.t 14) (.seq (.ops [.m 15 0, .i 16 (.callS 26 [.t 15])]) (.seq (.ops [.m 17 0, .i 18 (.nilCheck (.t 17)), .f 19 1 18, .l 20 19, .i 21 (.bin .add (.t 20) (.n 1)), .i 22 (.nilCheck (.t 17)), .f 23 1 22, .s 1 23 21]) (.seq (.ops [.m 24 0, .i 25 (.callS 27 [.t 24]), .m 5 25]) (.seq (.ops [.m 26 0, .i 27 (.callS 28 [.t 26, .c (.one (.st (.int .u8 46)))])]) (.seq (.ops [.m 28 0, .i 29 (.buildFlat []), .m 30 1, .i 31 (.append false 9 1 16 (.t 29) (.t 30)), .m 32 5, .i 33 (.buildFlat [.t 32]), .i 34 (.append false 9 1 16 (.t 31) (.t 33)), .i 35 (.callX 12 [.t 28, .t 34]), .i 36 (.call 29 [.t 35]), .s 3 4 36]) .ret))))) .skip)) (.seq (.ops [.m 37 0, .m 38 1, .i 39 (.callS 30 [.t 37, .t 38]), .i 6 (.alloc 25 [.st (.int .i64 0), .st (.int .i64 0), .full []]), .s 3 6 39]) (.seq (.block 0 (.loop (.seq (.seq (.ops [.m 40 0, .i 41 (.nilCheck (.t 40)), .f 42 3 41, .l 43 42, .i 44 (.bin .eql (.t 43) (.n 0)), .m 45 44, .mk (some 46) (some (45, true)) (.mov (.t 0)) .no, .mk (some 47) (some (45, true)) (.callS 25 [.t 46, .c (.one (.st (.int .u8 32)))]) .no, .i 48 (.pick (.t 45) (.t 47) (.c (.one (.st (.bool false)))))]) (.cond (.t 48) .skip (.exit 0))) (.block 1 (.seq (.ops [.m 49 0, .i 50 (.nilCheck (.t 49)), .f 51 1 50, .l 52 51, .i 53 (.bin .add (.t 52) (.n 1)), .i 54 (.nilCheck (.t 49)), .f 55 1 54, .s 1 55 53]) (.seq (.ops [.m 56 0, .i 57 (.callS 26 [.t 56])]) (.ops [.mk (some 58) none (.load true 3 (.t 6)) (.onb 6), .m 59 0, .m 60 1, .mk (some 61) none (.callS 30 [.t 59, .t 60]) (.keeps [6]), .i 62 (.call 31 [.t 58, .t 61]), .s 3 6 62]))))))) (.seq (.ops [.L 63 3 6, .s 3 4 63]) .ret))))))
theorem ok_metaprune_R_state_term : OkF Tryd.prog 12 64 [14, 16, 25, 27, 80000035, 39, 47, 57, 61, 10060006] ir_metaprune_R_state_term [.cell 4 true 3] := .of Tryd.func12 rfl rfl (by kernel_rfl) rfl
def ir_metaprune_R_state_piece : IR :=
  (.seq (.ops [.i 4 (.alloc 25 [.st (.int .i64 0), .st (.int .i64 0), .full []])]) (.seq (.seq (.ops [.m 9 0, .i 10 (.nilCheck (.t 9)), .f 11 3 10, .l 12 11, .i 13 (.bin .neq (.t 12) (.n 0))]) (.cond (.t 13) (.seq (.ops [.i 14 (.build [.st (.int .i64 0), .st (.int .i64 0), .full []] []), .s 3 4 14]) .ret) .skip)) (.seq (.seq (.ops [.m 15 0, .i 16 (.callS 25 [.t 15, .c (.one (.st (.int .u8 40)))])]) (.cond (.t 16) (.seq (.ops [.m 17 0, .i 18 (.nilCheck (.t 17)), .f 19 1 18, .l 20 19, .i 21 (.bin .add (.t 20) (.n 1)), .i 22 (.nilCheck (.t 17)), .f 23 1 22, .s 1 23 21]) (.seq (.ops [.m 24 0, .m 25 1, .i 26 (.callS 12 [.t 24, .t 25]), .i 5 (.alloc 25 [.st (.int .i64 0), .st (.int .i64 0), .full []]), .s 3 5 26]) (.seq (.ops [.m 27 0, .i 28 (.callS 28 [.t 27, .c (.one (.st (.int .u8 41)))])]) (.seq (.ops [.L 29 3 5, .s 3 4 29]) .ret)))) .skip)) (.seq (.ops [.m 30 0, .i 31 (.callS 27 [.t 30]), .m 6 31]) (.seq (.seq (.ops [.m 32 0, .i 33 (.nilCheck (.t 32)), .f 34 3 33, .l 35 34, .i 36 (.bin .neq (.t 35) (.n 0))]) (.cond (.t 36) (.seq (.ops [.i 37 (.build [.st (.int .i64 0), .st (.int .i64 0), .full []] []), .s 3 4 37]) .ret) .skip)) (.seq (.ops [.m 38 0, .i 39 (.callS 26 [.t 38])]) (.seq (.seq (.ops [.m 40 1, .i 41 (.len false (.t 40)), .i 42 (.bin .sub (.t 41) (.n 1)), .m 7 42]) (.block 0 (.loop (.seq (.seq (.ops [.m 43 7, .i 44 (.bin .geq (.t 43) (.n 0))]) (.cond (.t 44) .skip (.exit 0))) (.seq (.block 1 (.seq (.ops [.m 47 1, .m 48 7, .i 49 (.indexAddr 1 (.t 47) (.t 48)), .l 50 49, .m 51 6, .i 52 (.bin .eql (.t 50) (.t 51))]) (.cond (.t 52) (.seq (.ops [.m 53 1, .i 54 (.len false (.t 53)), .i 55 (.bin .sub (.t 54) (.n 1)), .m 56 7, .i 57 (.bin .sub (.t 55) (.t 56)), .i 58 (.call 40 [.t 57]), .s 3 4 58]) .ret) .skip))) (.ops [.m 45 7, .i 46 (.bin .sub (.t 45) (.n 1)), .m 7 46])))))) (.seq (.ops [.m 59 6, .i 60 (.call 41 [.t 59]), .m 8 60]) (.seq (.seq (.ops [.m 61 8, .i 62 (.bin .lss (.t 61) (.n 0)), .m 63 62, .mk (some 64) (some (63, true)) (.mov (.t 0)) .no, .mk (some 65) (some (63, true)) (.nilCheck (.t 64)) .no, .mk (some 66) (some (63, true)) (.fieldAddr 3 (.t 65)) .no, .mk (some 67) (some (63, true)) (.load false 1 (.t 66)) .no, .mk (some 68) (some (63, true)) (.bin .eql (.t 67) (.n 0)) .no, .i 69 (.pick (.t 63) (.t 68) (.c (.one (.st (.bool false)))))]) (.cond (.t 69) (.ops [.m 70 0, .i 71 (.nilCheck (.t 70)), .f 72 3 71, .mk none none (.store 1 (.t 72) (.n 15)) .no]) .skip)) (.seq (.ops [.m 73 8, .i 74 (.call 42 [.t 73]), .s 3 4 74]) .ret))))))))))
theorem ok_metaprune_R_state_piece : OkF Tryd.prog 30 75 [16, 26, 28, 31, 39] ir_metaprune_R_state_piece [.cell 4 true 3] := .of Tryd.func30 rfl rfl (by kernel_rfl) rfl
def ir_R_LamRead : IR :=
  (.seq (.ops [.i 4 (.alloc 25 [.st (.int .i64 0), .st (.int .i64 0), .full []]), .i 5 (.mov (.n 0))]) (.seq (.ops [.m 9 1, .i 10 (.call 11 [.t 9]), .m 6 10]) (.seq (.seq (.ops [.m 11 6, .i 12 (.bin .neq (.t 11) (.n 0))]) (.cond (.t 12) (.seq (.ops [.i 13 (.build [.st (.int .i64 0), .st (.int .i64 0), .full []] []), .m 14 6, .s 3 4 13, .m 5 14]) .ret) .skip)) (.seq (.seq (.ops [.m 15 0, .i 16 (.len true (.t 15)), .i 17 (.bin .gtr (.t 16) (.n 4000))]) (.cond (.t 17) (.seq (.ops [.i 18 (.build [.st (.int .i64 0), .st (.int .i64 0), .full []] []), .s 3 4 18, .i 5 (.mov (.n 3))]) .ret) .skip)) (.seq (.ops [.m 19 0, .i 20 (.build [.st (.str (ByteArray.mk (#[]))), .st (.int .i64 0), .st (.int .i64 0), .st (.int .i64 0)] [(0, 1, .t 19)]), .i 21 (.box 41 (.t 20)), .m 7 21]) (.seq (.ops [.m 22 7, .m 23 1, .i 24 (.callS 12 [.t 22, .t 23]), .i 8 (.alloc 25 [.st (.int .i64 0), .st (.int .i64 0), .full []]), .s 3 8 24]) (.seq (.seq (.ops [.m 25 7, .i 26 (.nilCheck (.t 25)), .f 27 3 26, .l 28 27, .i 29 (.bin .eql (.t 28) (.n 0)), .m 30 29, .mk (some 31) (some (30, true)) (.mov (.t 7)) .no, .mk (some 32) (some (30, true)) (.nilCheck (.t 31)) .no, .mk (some 33) (some (30, true)) (.fieldAddr 1 (.t 32)) .no, .mk (some 34) (some (30, true)) (.load false 1 (.t 33)) .no, .mk (some 35) (some (30, true)) (.mov (.t 0)) .no, .mk (some 36) (some (30, true)) (.len true (.t 35)) .no, .mk (some 37) (some (30, true)) (.bin .lss (.t 34) (.t 36)) .no, .i 38 (.pick (.t 30) (.t 37) (.c (.one (.st (.bool false)))))]) (.cond (.t 38) (.ops [.m 39 7, .i 40 (.nilCheck (.t 39)), .f 41 3 40, .mk none none (.store 1 (.t 41) (.n 12)) .no]) .skip)) (.seq (.seq (.ops [.m 42 7, .i 43 (.nilCheck (.t 42)), .f 44 3 43, .l 45 44, .i 46 (.bin .neq (.t 45) (.n 0))]) (.cond (.t 46) (.seq (.ops [.i 47 (.build [.st (.int .i64 0), .st (.int .i64 0), .full []] []), .m 48 7, .mk (some 49) none (.nilCheck (.t 48)) (.onb 21), .mk (some 50) none (.fieldAddr 3 (.t 49)) (.onb 21), .mk (some 51) none (.load false 1 (.t 50)) (.onb 21), .mk none none (.store 3 (.t 4) (.t 47)) (.onb 4), .m 5 51]) .ret) .skip)) (.seq (.ops [.L 52 3 8, .s 3 4 52, .i 5 (.mov (.n 0))]) .ret)))))))))
theorem ok_R_LamRead : OkF Tryd.prog 5 53 [24, 10480021, 10490021, 10500021, 10070021] ir_R_LamRead [.cell 4 true 3, .t 5] := .of Tryd.func5 rfl rfl (by kernel_rfl) rfl
def ir_L_LambdaParses : IR :=
  (.seq (.ops [.i 4 (.mov (.c (.one (.st (.bool false)))))]) (.seq (.seq (.ops [.m 9 1, .i 10 (.len false (.t 9)), .i 11 (.bin .gtr (.t 10) (.n 100)), .m 12 11, .mk (some 13) (some (12, false)) (.mov (.t 0)) .no, .mk (some 14) (some (12, false)) (.len true (.t 13)) .no, .mk (some 15) (some (12, false)) (.bin .gtr (.t 14) (.n 1500)) .no, .mk (some 16) (some (12, false)) (.mov (.t 15)) .no, .mk (some 17) (some (16, true)) (.mov (.t 0)) .no, .mk (some 18) (some (16, true)) (.len true (.t 17)) .no, .mk (some 19) (some (16, true)) (.bin .leq (.t 18) (.n 4000)) .no, .mk (some 20) (some (12, false)) (.pick (.t 16) (.t 19) (.c (.one (.st (.bool false))))) .no, .i 21 (.pick (.t 12) (.c (.one (.st (.bool true)))) (.t 20))]) (.cond (.t 21) (.seq (.ops [.i 4 (.mov (.c (.one (.st (.bool true)))))]) .ret) .skip)) (.seq (.ops [.m 23 0, .m 24 1, .i 25 (.call 4 [.t 23, .t 24]), .m 22 25, .i 26 (.extract 0 (.t 22)), .i 27 (.extract 1 (.t 22)), .i 5 (.alloc 25 [.st (.int .i64 0), .st (.int .i64 0), .full []]), .s 3 5 26, .m 6 27]) (.seq (.ops [.m 29 0, .m 30 1, .i 31 (.call 5 [.t 29, .t 30]), .m 28 31, .i 32 (.extract 0 (.t 28)), .i 33 (.extract 1 (.t 28)), .i 7 (.alloc 25 [.st (.int .i64 0), .st (.int .i64 0), .full []]), .s 3 7 32, .m 8 33]) (.seq (.ops [.L 34 3 5, .m 35 6, .L 36 3 7, .m 37 8, .i 38 (.call 6 [.t 34, .t 35, .t 36, .t 37]), .m 4 38]) .ret)))))
theorem ok_L_LambdaParses : OkF Tryd.prog 3 39 [] ir_L_LambdaParses [.t 4] := .of Tryd.func3 rfl rfl (by kernel_rfl) rfl

theorem find_take {p : Nat → Bool} {n k : Nat} (hk : k < n) (h : ∀ j < k, p j = false) (hp : p k = true) : (List.range n).find? p = some k := by
  rw [List.find?_range_eq_some]
  exact ⟨hp, by simpa using hk, fun j hj => by simp [h j hj]⟩
theorem constOf_a (s : ByteArray) : ACalls Tryd.prog 41 [aStr s] (aInt (constOf s)) := by
  refine ok_R_ConstOf.ac fun C hC => ?_
  unfold ir_R_ConstOf
  repeat' (first | (with_reducible first | refine W ?_ | refine Wz0 ?_) | ((with_reducible first | refine Wo (fun K hK => ?_) | refine Wp ?_ | refine Wq ?_ | refine Wr ?_); (try simp only [go_sem, fN, seval, eT, iR, dT, dF, nL]); (repeat with_reducible refine Ai ?_); (try (refine hK _ ?_; clear hK K)); (try with_reducible refine iC ?_)))
  refine IWP.loop (fun n st => ∃ k, k ≤ 40 ∧ n = 40 - k ∧ st.env 0 = aStr s ∧ st.env 3 = aInt (k : Nat) ∧ ∀ j < k, ¬ s = cNm ++ dec2 j) 40 ⟨0, by decide, rfl, rfl, rfl, fun j hj => by omega⟩ ?_
  rintro n ⟨env, S⟩ ⟨k, hk, rfl, e0, e3, hno⟩
  simp only at e0 e3
  by_cases hlt : (k : Int) < 40
  · have hf := c_fit k
    by_cases he : s = cNm ++ dec2 k
    · have hc : constOf s = k := by
        unfold constOf
        rw [find_take (k := k) (by omega) (fun j hj => by simpa using hno j hj) (by simpa using he)]
      unfold cNm at he
      repeat' (first | (with_reducible first | refine W ?_ | refine Wz0 ?_) | refine Cg _ (dec_a k (by omega)) ?_ | ((with_reducible first | refine Wo (fun K hK => ?_) | refine Wp ?_ | refine Wq ?_ | refine Wr ?_); (try simp only [go_sem, fN, seval, eT, iR, e0, e3, hlt, hf, he, dT, dF, nL]); (repeat with_reducible refine Ai ?_); (try (refine hK _ ?_; clear hK K)); (try with_reducible refine iC ?_)))
      simp only [go_sem, fN, seval, FinQ, AS.result, resAll, resOne, tupV, e3]
      rw [← hc, he]
    · have he' := he
      unfold cNm at he
      repeat' (first | (with_reducible first | refine W ?_ | refine Wz0 ?_) | refine Cg _ (dec_a k (by omega)) ?_ | ((with_reducible first | refine Wo (fun K hK => ?_) | refine Wp ?_ | refine Wq ?_ | refine Wr ?_); (try simp only [go_sem, fN, seval, eT, iR, e0, e3, hlt, hf, he, dT, dF, nL]); (repeat with_reducible refine Ai ?_); (try (refine hK _ ?_; clear hK K)); (try with_reducible refine iC ?_)))
      refine then_normal ⟨40 - (k + 1), by omega, k + 1, by omega, rfl, ?_⟩
      simp only [go_sem, fN, seval, eT, iR, e0, e3]
      refine ⟨by congr 3, fun j hj => ?_⟩
      by_cases hj' : j = k
      · rw [hj']
        exact he'
      · exact hno j (by omega)
  · have hc : constOf s = -1 := by
      unfold constOf
      rw [List.find?_eq_none.2 (fun x hx => by
        rw [List.mem_range] at hx
        simpa using hno x (by omega))]
    repeat' (first | (with_reducible first | refine W ?_ | refine Wz0 ?_) | ((with_reducible first | refine Wo (fun K hK => ?_) | refine Wp ?_ | refine Wq ?_ | refine Wr ?_); (try simp only [go_sem, fN, seval, eT, iR, e0, e3, hlt, dT, dF, nL]); (repeat with_reducible refine Ai ?_); (try (refine hK _ ?_; clear hK K)); (try with_reducible refine iC ?_)))
    simp only [go_sem, fN, seval, FinQ, AS.result, resAll, resOne, tupV]
    rw [hc]

abbrev boxS (s : ByteArray) (i k : Nat) (e : Int) : ABlk := .box 41 [.st (.str s), .st (.int .i64 i), .st (.int .i64 k), .st (.int .i64 e)]
section
variable {s : ByteArray} {i k b : Nat} {e : Int} {S : AStore}
theorem is_S (c : Int) (hb : 1000 ≤ b) (sb : S b = some (boxS s i k e)) : ACallsS Tryd.prog 25 [.one (.ptr b 1 0 0), .one (.st (.int .u8 c))] S (aBool (decide (i < s.size ∧ byteAt s i = c))) S := by
  refine ok_metaprune_R_state_is.acS fun hS C hC => ?_
  unfold ir_metaprune_R_state_is
  by_cases h : (i : Int) < s.size
  · have h' : i < s.size := by omega
    have e1 : decide (i < s.size ∧ byteAt s i = c) = decide (byteAt s i = c) := by simp [h']
    rw [e1]
    repeat' (first | (with_reducible first | refine W ?_ | refine Wz0 ?_) | ((with_reducible first | refine Wo (fun K hK => ?_) | refine Wp ?_ | refine Wq ?_ | refine Wr ?_); (try simp only [go_sem, fN, seval, eT, iR, AS.startS, sb, h, h', byteN_eq, dT, dF, nL]); (repeat with_reducible refine Ai ?_); (try (refine hK _ ?_; clear hK K)); (try with_reducible refine iC ?_)))
    exact finS_same (aBool (decide (byteAt s i = c))) hS trivial rfl rfl fun i _ => rfl
  · have h' : ¬ i < s.size := by omega
    have e1 : decide (i < s.size ∧ byteAt s i = c) = false := by simp [h']
    rw [e1]
    repeat' (first | (with_reducible first | refine W ?_ | refine Wz0 ?_) | ((with_reducible first | refine Wo (fun K hK => ?_) | refine Wp ?_ | refine Wq ?_ | refine Wr ?_); (try simp only [go_sem, fN, seval, eT, iR, AS.startS, sb, h, h', byteN_eq, dT, dF, nL]); (repeat with_reducible refine Ai ?_); (try (refine hK _ ?_; clear hK K)); (try with_reducible refine iC ?_)))
    exact finS_same (aBool false) hS trivial rfl rfl fun i _ => rfl
theorem knot_S (hb : 1000 ≤ b) (hk : k ≤ 1000) (sb : S b = some (boxS s i k 0)) : ACallsS Tryd.prog 26 [.one (.ptr b 1 0 0)] S (.tup []) (updE S b (some (boxS s i (k + 1) (if 200 < k + 1 then 3 else 0)))) := by
  refine ok_metaprune_R_state_knot.acS fun hS C hC => ?_
  unfold ir_metaprune_R_state_knot
  have hc : ((k + 1 : Nat) : Int) = (k : Int) + 1 := by omega
  by_cases h : 200 < k + 1
  · have h' : (200 : Int) < (k : Int) + 1 := by omega
    rw [if_pos h]
    repeat' (first | (with_reducible first | refine W ?_ | refine Wz0 ?_) | ((with_reducible first | refine Wo (fun K hK => ?_) | refine Wp ?_ | refine Wq ?_ | refine Wr ?_); (try simp only [go_sem, fN, seval, eT, iR, AS.startS, sb, h', dT, dF, nL]); (repeat with_reducible refine Ai ?_); (try (refine hK _ ?_; clear hK K)); (try with_reducible refine iC ?_)))
    exact finS_one (.tup []) hS hb rfl trivial rfl rfl (by simp [updE]) fun i h1 h2 => by simp [updE, h2]
  · have h' : ¬ (200 : Int) < (k : Int) + 1 := by omega
    rw [if_neg h]
    repeat' (first | (with_reducible first | refine W ?_ | refine Wz0 ?_) | ((with_reducible first | refine Wo (fun K hK => ?_) | refine Wp ?_ | refine Wq ?_ | refine Wr ?_); (try simp only [go_sem, fN, seval, eT, iR, AS.startS, sb, h', dT, dF, nL]); (repeat with_reducible refine Ai ?_); (try (refine hK _ ?_; clear hK K)); (try with_reducible refine iC ?_)))
    exact finS_one (.tup []) hS hb rfl trivial rfl rfl (by simp [updE]) fun i h1 h2 => by simp [updE, h2]
theorem want_skip (c : Int) (hb : 1000 ≤ b) (he : ¬ e = 0) (sb : S b = some (boxS s i k e)) : ACallsS Tryd.prog 28 [.one (.ptr b 1 0 0), .one (.st (.int .u8 c))] S (.tup []) S := by
  refine ok_metaprune_R_state_want.acS fun hS C hC => ?_
  unfold ir_metaprune_R_state_want
  repeat' (first | (with_reducible first | refine W ?_ | refine Wz0 ?_) | ((with_reducible first | refine Wo (fun K hK => ?_) | refine Wp ?_ | refine Wq ?_ | refine Wr ?_); (try simp only [go_sem, fN, seval, eT, iR, AS.startS, sb, he, dT, dF, nL]); (repeat with_reducible refine Ai ?_); (try (refine hK _ ?_; clear hK K)); (try with_reducible refine iC ?_)))
  exact finS_same (.tup []) hS trivial rfl rfl fun i _ => rfl
theorem want_S (c : Int) (hs : s.size ≤ 100000) (hi : i ≤ s.size) (hb : 1000 ≤ b) (sb : S b = some (boxS s i k 0)) : ACallsS Tryd.prog 28 [.one (.ptr b 1 0 0), .one (.st (.int .u8 c))] S (.tup []) (updE S b (some (boxS s (i + 1) k (wantE s c i)))) := by
  refine ok_metaprune_R_state_want.acS fun hS C hC => ?_
  unfold ir_metaprune_R_state_want wantE
  by_cases h : i = s.size
  · have h' : (i : Int) = s.size := by omega
    rw [if_pos h]
    repeat' (first | (with_reducible first | refine W ?_ | refine Wz0 ?_) | ((with_reducible first | refine Wo (fun K hK => ?_) | refine Wp ?_ | refine Wq ?_ | refine Wr ?_); (try simp only [go_sem, fN, seval, eT, iR, AS.startS, sb, h', dT, dF, nL]); (repeat with_reducible refine Ai ?_); (try (refine hK _ ?_; clear hK K)); (try with_reducible refine iC ?_)))
    exact finS_one (.tup []) hS hb rfl trivial rfl rfl (by simp [updE]; omega) fun i h1 h2 => by simp [updE, h2]
  · have h' : ¬ (i : Int) = s.size := by omega
    have h2 : i < s.size := by omega
    rw [if_neg h]
    by_cases h3 : byteAt s i = c
    · rw [if_pos h3]
      repeat' (first | (with_reducible first | refine W ?_ | refine Wz0 ?_) | ((with_reducible first | refine Wo (fun K hK => ?_) | refine Wp ?_ | refine Wq ?_ | refine Wr ?_); (try simp only [go_sem, fN, seval, eT, iR, AS.startS, sb, h', h2, byteN_eq, h3, dT, dF, nL]); (repeat with_reducible refine Ai ?_); (try (refine hK _ ?_; clear hK K)); (try with_reducible refine iC ?_)))
      exact finS_one (.tup []) hS hb rfl trivial rfl rfl (by simp [updE]) fun i h1 h2 => by simp [updE, h2]
    · rw [if_neg h3]
      repeat' (first | (with_reducible first | refine W ?_ | refine Wz0 ?_) | ((with_reducible first | refine Wo (fun K hK => ?_) | refine Wp ?_ | refine Wq ?_ | refine Wr ?_); (try simp only [go_sem, fN, seval, eT, iR, AS.startS, sb, h', h2, byteN_eq, h3, dT, dF, nL]); (repeat with_reducible refine Ai ?_); (try (refine hK _ ?_; clear hK K)); (try with_reducible refine iC ?_)))
      exact finS_one (.tup []) hS hb rfl trivial rfl rfl (by simp [updE]) fun i h1 h2 => by simp [updE, h2]
theorem sname_skip (hb : 1000 ≤ b) (he : ¬ e = 0) (sb : S b = some (boxS s i k e)) : ACallsS Tryd.prog 27 [.one (.ptr b 1 0 0)] S (aStr ⟨#[]⟩) S := by
  refine ok_metaprune_R_state_name.acS fun hS C hC => ?_
  unfold ir_metaprune_R_state_name
  repeat' (first | (with_reducible first | refine W ?_ | refine Wz0 ?_) | ((with_reducible first | refine Wo (fun K hK => ?_) | refine Wp ?_ | refine Wq ?_ | refine Wr ?_); (try simp only [go_sem, fN, seval, eT, iR, AS.startS, sb, he, dT, dF, nL]); (repeat with_reducible refine Ai ?_); (try (refine hK _ ?_; clear hK K)); (try with_reducible refine iC ?_)))
  exact finS_same (aStr ⟨#[]⟩) hS trivial rfl rfl fun i _ => rfl
set_option maxRecDepth 100000 in
theorem sname_S (hs : s.size ≤ 100000) (hi : i ≤ s.size) (hb : 1000 ≤ b) (sb : S b = some (boxS s i k 0)) : ACallsS Tryd.prog 27 [.one (.ptr b 1 0 0)] S (aStr (nmAt s i)) (updE S b (some (boxS s (lendA s i) k (nmErr s i)))) := by
  refine ok_metaprune_R_state_name.acS fun hS C hC => ?_
  unfold ir_metaprune_R_state_name
  obtain ⟨l1, l2⟩ := lendA_le hi
  repeat' (first | (with_reducible first | refine W ?_ | refine Wz0 ?_) | ((with_reducible first | refine Wo (fun K hK => ?_) | refine Wp ?_ | refine Wq ?_ | refine Wr ?_); (try simp only [go_sem, fN, seval, eT, iR, AS.startS, sb, dT, dF, nL]); (repeat with_reducible refine Ai ?_); (try (refine hK _ ?_; clear hK K)); (try with_reducible refine iC ?_)))
  refine IWP.cut 0 (fun x => x.env 0 = .one (.ptr b 1 0 0) ∧ x.env 3 = aInt i ∧ x.S b = some (boxS s (lendA s i) k 0) ∧ ∀ j, 1000 ≤ j → j ≠ b → x.S j = S j) ?_ ?_
  · refine IWP.loop (fun m x => ∃ j, i ≤ j ∧ j ≤ s.size ∧ m = s.size - j ∧ lendA s i = lendA s j ∧ x.env 0 = .one (.ptr b 1 0 0) ∧ x.env 3 = aInt i ∧ x.S b = some (boxS s j k 0) ∧ ∀ j, 1000 ≤ j → j ≠ b → x.S j = S j) (s.size - i) ⟨i, Nat.le_refl _, hi, rfl, rfl, rfl, rfl, sb, fun _ _ _ => rfl⟩ ?_
    rintro m ⟨env, S1⟩ ⟨j, hij, hj, rfl, hl, v0, v3, tb, hrest⟩
    simp only at v0 v3 tb hrest
    by_cases hlt : (j : Int) < s.size
    · have hlt' : j < s.size := by omega
      have hbr := byteAt_range s j
      by_cases hlet : letterI (byteAt s j) = true
      · repeat' (first | (with_reducible first | refine W ?_ | refine Wz0 ?_) | refine Cg _ (isLetter_a (byteAt s j) hbr.1) ?_ | ((with_reducible first | refine Wo (fun K hK => ?_) | refine Wp ?_ | refine Wq ?_ | refine Wr ?_); (try simp only [go_sem, fN, seval, eT, iR, v0, v3, tb, hlt, hlt', byteN_eq, hlet, dT, dF, nL]); (repeat with_reducible refine Ai ?_); (try (refine hK _ ?_; clear hK K)); (try with_reducible refine iC ?_)))
        refine then_normal ⟨s.size - (j + 1), by omega, j + 1, by omega, by omega, rfl, ?_, ?_⟩
        · rw [hl]
          exact lendA_on (by omega) hlet
        · simp only [go_sem, fN, seval, eT, iR, v0, v3, tb]
          refine ⟨by congr 5, fun j j1 j2 => ?_⟩
          simp only [go_sem, fN, seval, eT, iR, j2]
          exact hrest j j1 j2
      · have hst : lendA s i = j := by rw [hl]; exact lendA_stop (by omega) hlet
        repeat' (first | (with_reducible first | refine W ?_ | refine Wz0 ?_) | refine Cg _ (isLetter_a (byteAt s j) hbr.1) ?_ | ((with_reducible first | refine Wo (fun K hK => ?_) | refine Wp ?_ | refine Wq ?_ | refine Wr ?_); (try simp only [go_sem, fN, seval, eT, iR, v0, v3, tb, hlt, hlt', byteN_eq, hlet, dT, dF, nL]); (repeat with_reducible refine Ai ?_); (try (refine hK _ ?_; clear hK K)); (try with_reducible refine iC ?_)))
        refine ⟨rfl, ?_⟩
        simp only [go_sem, fN, seval, eT, iR, v0, v3, tb, hst]
        exact hrest
    · have hst : lendA s i = j := by rw [hl]; exact lendA_end (by omega)
      repeat' (first | (with_reducible first | refine W ?_ | refine Wz0 ?_) | ((with_reducible first | refine Wo (fun K hK => ?_) | refine Wp ?_ | refine Wq ?_ | refine Wr ?_); (try simp only [go_sem, fN, seval, eT, iR, v0, v3, tb, hlt, dT, dF, nL]); (repeat with_reducible refine Ai ?_); (try (refine hK _ ?_; clear hK K)); (try with_reducible refine iC ?_)))
      refine ⟨rfl, ?_⟩
      simp only [go_sem, fN, seval, eT, iR, v0, v3, tb, hst]
      exact hrest
  rintro ⟨env, S1⟩ ⟨v0, v3, tb, hrest⟩
  simp only at v0 v3 tb hrest
  have hex : s.extract i (lendA s i) = nmAt s i := rfl
  have hsz : (nmAt s i).size = lendA s i - i := by
    unfold nmAt
    rw [ByteArray.size_extract]
    omega
  have fin : ∀ (x : AS) (e : Int), resAll x [RV.t 2] = some [aStr (nmAt s i)] → x.S b = some (boxS s (lendA s i) k e) → (∀ j, 1000 ≤ j → j ≠ b → x.S j = S j) → nmErr s i = e → FinS C [RV.t 2] (aStr (nmAt s i)) (updE S b (some (boxS s (lendA s i) k (nmErr s i)))) .ret x := fun x e h1 h2 h3 h4 => by
    rw [h4]
    exact finS_one (aStr (nmAt s i)) hS hb rfl trivial (by rw [h1]; rfl) rfl h2 h3
  by_cases h0 : lendA s i = i
  · have hnil : nmAt s i = ⟨#[]⟩ := ByteArray.size_eq_zero_iff.1 (by omega)
    have hnn := hex
    rw [hnil, h0] at hnn
    rw [h0] at tb
    rw [hnil, h0] at fin ⊢
    by_cases h1 : i = s.size
    · have hn : nmErr s i = 13 := by unfold nmErr; rw [if_pos h0, if_pos h1]
      have h2 : ((i : Nat) : Int) = s.size := by omega
      have hss : s.extract s.size s.size = ⟨#[]⟩ := by rw [← hnn, h1]
      have hs3 : s.extract i s.size = ⟨#[]⟩ := by rw [← hnn, ← h1]
      repeat' (first | (with_reducible first | refine W ?_ | refine Wz0 ?_) | ((with_reducible first | refine Wo (fun K hK => ?_) | refine Wp ?_ | refine Wq ?_ | refine Wr ?_); (try simp only [go_sem, fN, seval, eT, iR, v0, v3, tb, hnn, h2, hss, hs3, dT, dF, nL]); (repeat with_reducible refine Ai ?_); (try (refine hK _ ?_; clear hK K)); (try with_reducible refine iC ?_)))
      refine fin _ 13 rfl ?_ ?_ hn
      · simp only [go_sem, fN, seval, eT, iR, h2]
        rw [← h2]
      · intro j j1 j2
        simp only [go_sem, fN, seval, eT, iR, j2]
        exact hrest j j1 j2
    · have hn : nmErr s i = 12 := by unfold nmErr; rw [if_pos h0, if_neg h1]
      have h2 : ¬ ((i : Nat) : Int) = s.size := by omega
      repeat' (first | (with_reducible first | refine W ?_ | refine Wz0 ?_) | ((with_reducible first | refine Wo (fun K hK => ?_) | refine Wp ?_ | refine Wq ?_ | refine Wr ?_); (try simp only [go_sem, fN, seval, eT, iR, v0, v3, tb, hnn, h2, dT, dF, nL]); (repeat with_reducible refine Ai ?_); (try (refine hK _ ?_; clear hK K)); (try with_reducible refine iC ?_)))
      refine fin _ 12 rfl ?_ ?_ hn
      · simp only [go_sem, fN, seval, eT, iR]
      · intro j j1 j2
        simp only [go_sem, fN, seval, eT, iR, j2]
        exact hrest j j1 j2
  · have hn0 : nmErr s i = if nameOk (nmAt s i) = true then 0 else 1 := by unfold nmErr; rw [if_neg h0]
    generalize lendA s i = j1 at *
    generalize hnm : nmAt s i = nm at *
    have hne : ¬ nm = ⟨#[]⟩ := fun e => by
      rw [e] at hsz
      have : (⟨#[]⟩ : ByteArray).size = 0 := rfl
      omega
    by_cases hok : nameOk nm = true
    · rw [if_pos hok] at hn0
      repeat' (first | (with_reducible first | refine W ?_ | refine Wz0 ?_) | refine Cg _ (isName_a nm) ?_ | ((with_reducible first | refine Wo (fun K hK => ?_) | refine Wp ?_ | refine Wq ?_ | refine Wr ?_); (try simp only [go_sem, fN, seval, eT, iR, v0, v3, tb, hex, hne, hok, dT, dF, nL]); (repeat with_reducible refine Ai ?_); (try (refine hK _ ?_; clear hK K)); (try with_reducible refine iC ?_)))
      refine fin _ 0 rfl ?_ ?_ hn0
      · simp only [go_sem, fN, seval, eT, iR, tb]
      · exact hrest
    · rw [if_neg hok] at hn0
      repeat' (first | (with_reducible first | refine W ?_ | refine Wz0 ?_) | refine Cg _ (isName_a nm) ?_ | ((with_reducible first | refine Wo (fun K hK => ?_) | refine Wp ?_ | refine Wq ?_ | refine Wr ?_); (try simp only [go_sem, fN, seval, eT, iR, v0, v3, tb, hex, hne, hok, dT, dF, nL]); (repeat with_reducible refine Ai ?_); (try (refine hK _ ?_; clear hK K)); (try with_reducible refine iC ?_)))
      refine fin _ 1 rfl ?_ ?_ hn0
      · simp only [go_sem, fN, seval, eT, iR, tb]
      · intro j j1 j2
        simp only [go_sem, fN, seval, eT, iR, j2]
        exact hrest j j1 j2
end

end Go.Proofs.YtgpaahlkjibihaaDoor
