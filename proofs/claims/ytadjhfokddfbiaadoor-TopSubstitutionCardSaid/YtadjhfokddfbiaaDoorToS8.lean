/-
  Part 8 of the texts: BLRead2; BLRead3; IrTo; BTo; BLRead4; BLRead5; BLRead6; IrLClone; IrLRef; BTo2; BLRef; BLRef2; IrLNames; BLNames; BDefer3; BLParse3; IrLWrite; BHand; IrBld. Conditions: none.
-/
import Derived.Test.YtadjhfokddfbiaaDoorToS7
namespace Go.Proofs.YtadjhfokddfbiaaDoor
open Go Go.RowKit
set_option linter.unusedVariables false
set_option linter.unusedSimpArgs false
set_option maxHeartbeats 1000000
theorem hi_ne {b c : Nat} (hb : 1000 ≤ b) (hc : c < 1000) : (b = c) = False := eq_false (by omega)
theorem lo_ne {b c : Nat} (hb : 1000 ≤ b) (hc : c < 1000) : (c = b) = False := eq_false (by omega)
abbrev rowL (xs : List ByteArray) : ABlk := .mrow 9 1 (xs.map encS)
abbrev boxV (i : Int) : ABlk := .box 25 [.st (.int .i64 1), .st (.int .i64 i), .st (.list [])]
def ir_pieceLoop2 : IR := (.rangeF (.t 33) [34, 35] (.seq (.ops [.m 5 34]) (.ops [.m 6 35])) (.block 1 (.seq (.ops [.m 36 6, .l 37 4, .i 38 (.bin .eql (.t 36) (.t 37))]) (.cond (.t 38) (.seq (.ops [.l 39 1, .i 40 (.nilCheck (.t 39)), .f 41 1 40, .l 42 41, .i 43 (.len false (.t 42)), .i 44 (.bin .sub (.t 43) (.n 1)), .m 45 5, .i 46 (.bin .sub (.t 44) (.t 45)), .i 47 (.call 38 [.t 46]), .s 3 2 47]) .ret) .skip))))
set_option maxRecDepth 100000 in
theorem pieceLoop2 {C : Ctx} {Q : AX → AS → Prop} (htop : C.Top) (hC : C.n = 75) (names : List ByteArray) (hl : names.length ≤ 1000000) (nm : ByteArray) (b id : Nat) (hb : 1000 ≤ b) (u : ByteArray) (l : Int) (ty : TypeId) (env : Nat → AV) (S : AStore)
    (v1 : env 1 = .one (.ptr 1 1 0 0)) (v2 : env 2 = .one (.ptr 2 1 0 0)) (v4 : env 4 = .one (.ptr 4 1 0 0)) (v33 : env 33 = .one (.fn 62 [.ptr 900 1 0 0])) {e1 : TypeId} (s1 : S 1 = some (.box e1 [.ptr b 1 0 0])) {cs : List AC} (hcs : cs.length = 3) (s2 : S 2 = some (.box 25 cs)) (s4 : S 4 = some (.box 9 [.st (.str nm)])) (s900 : S 900 = some (.box ty [.row id names.length])) (sid : S id = some (rowL names)) (sb : S b = some (boxL u (.row id names.length) l)) (s901 : S 901 = none)
    (hdone : boundAt names nm = none → Q .normal ⟨env, updE S 901 (some (.dead 1 0))⟩) (hret : ∀ k : Nat, boundAt names nm = some k → Q .ret ⟨env, updE (updE S 2 (some (boxV ((names.length : Int) - 1 - k)))) 901 (some (.dead 1 0))⟩) : IWP Tryd.prog C [10, 21, 23, 26, 28, 33] ir_pieceLoop2 Q ⟨env, S⟩ := by
  unfold ir_pieceLoop2
  refine IWP.rangeF htop 901 (by decide) s901 (show AS.ev _ (.t 33) = _ from v33) (by kernel_rfl) (back_iterM names (by omega) (up1 900) (up1 id) ty 9 (up1_le _) (up1_le _)) (fun _ => rfl) (fun pre U => U = upS S ∧ ∀ i ∈ pre, names.getD i .empty ≠ nm) (fun ex U => ex = .ret ∧ ∃ k : Nat, boundAt names nm = some k ∧ U = updE (upS S) 1002 (some (boxV ((names.length : Int) - 1 - k)))) ⟨rfl, by simp⟩ ?_ ?_ ?_ ?_
  · rintro pre U b ⟨rfl, _⟩ hU
    have n1 : up1 900 ≠ up1 901 := by decide
    have n2 : up1 id ≠ up1 901 := fun h => by
      have : id = 901 := by unfold up1 at h; omega
      subst this
      rw [sid] at s901
      cases s901
    rw [updE_ne _ n1, updE_ne _ n2, upS_up, upS_up, s900, sid]
    exact ⟨rfl, rfl⟩
  · rintro C' b0 b1 pre v U hC' hpre ⟨rfl, hI⟩ hU hcl hb1
    have t1 : upS S 1001 = some (.box e1 [.ptr (up1 b) 1 0 0]) := upS_some s1
    have t2 : upS S 1002 = some (.box 25 (cs.map (AC.ren up1))) := by
      have := upS_some (S := S) (i := 2) s2
      rw [show up1 2 = 1002 from rfl] at this
      rw [this]
      show some (ABlk.box _ (AC.rens up1 cs)) = _
      rw [AC.rens_eq]
    have t4 : upS S 1004 = some (.box 9 [.st (.str nm)]) := upS_some s4
    have tb : upS S (up1 b) = some (boxL u (.row (up1 id) names.length) l) := upS_some sb
    have ti : upS S (up1 id) = some (rowL names) := upS_some sid
    have w1 : upEnv C.n env 1 = .one (.ptr 1001 1 0 0) := by rw [upEnv, if_pos (by omega), v1]; rfl
    have w2 : upEnv C.n env 2 = .one (.ptr 1002 1 0 0) := by rw [upEnv, if_pos (by omega), v2]; rfl
    have w4 : upEnv C.n env 4 = .one (.ptr 1004 1 0 0) := by rw [upEnv, if_pos (by omega), v4]; rfl
    have u901 : up1 901 = 1901 := rfl
    have n2b : ¬ 1901 = up1 b := by unfold up1; omega
    have n2i : ¬ 1901 = up1 id := fun h => by
      have : id = 901 := by unfold up1 at h; omega
      subst this
      rw [sid] at s901
      cases s901
    have n3b : ¬ up1 b = 1901 := fun h => n2b h.symm
    have n3i : ¬ up1 id = 1901 := fun h => n2i h.symm
    have hll : (names.map encS).length = names.length := by simp
    obtain ⟨tl, htl⟩ := hpre
    have hdn : downTo names.length 0 = (List.range names.length).reverse := by unfold downTo; rw [List.range_eq_range']; rfl
    have hrev : (List.range names.length) = tl.reverse ++ [v] ++ pre.reverse := by
      have := congrArg List.reverse htl
      rw [hdn, List.reverse_reverse] at this
      rw [← this]
      simp
    have v0 : v < names.length := by
      have : v ∈ List.range names.length := by rw [hrev]; simp
      simpa using this
    have hpos : ∀ j, v < j → j < names.length → j ∈ pre := fun j h1 h2 => by
      have hlen := congrArg List.length hrev
      simp at hlen
      have hv : (List.range names.length)[tl.length]? = some v := by rw [hrev]; simp
      have hv' : tl.length = v := by
        rw [List.getElem?_range (by omega)] at hv
        injection hv
      have hj : (List.range names.length)[j]? = some j := by rw [List.getElem?_range h2]
      rw [hrev, List.append_assoc, List.getElem?_append_right (by simp; omega), List.getElem?_append_right (by simp; omega)] at hj
      have := List.mem_of_getElem? hj
      simpa using this
    have hget : names[v]? = some (names.getD v .empty) := by simp [List.getD, List.getElem?_eq_getElem v0]
    have hgd : ∀ x, names.getD v .empty = x → names.getD v .empty = x := fun _ h => h
    generalize hx0 : names.getD v .empty = x at hget
    repeat' (first | (with_reducible first | refine W ?_ | refine Wz0 ?_) | ((with_reducible first | refine Wo (fun K hK => ?_) | refine Wp ?_ | refine Wq ?_ | refine Wr ?_); (try simp only [go_sem, fN, seval, eT, iR, setPs, w4, t4, dT, dF, nL]); (repeat with_reducible refine Ai ?_); (try (refine hK _ ?_; clear hK K)); (try with_reducible refine iC ?_)))
    refine then_normal ⟨show updE (upS S) (up1 901) (some b0) (up1 901) = _ from updE_same _ _ _, ?_⟩
    have hhigh : Clean (updE (upS S) (up1 901) (some b1)) := clean_upd hcl (up1_le _) hb1
    by_cases hx : x = nm
    · have hbd : boundAt names nm = some v := backF_some (by rw [decide_eq_true_eq, hx0, hx]) v0 fun j h1 h2 => by
        rw [decide_eq_true_eq]
        exact hI j (hpos j h1 h2)
      repeat' (first | (with_reducible first | refine W ?_ | refine Wz0 ?_) | refine Cg _ (lV_a ((names.length : Int) - 1 - v)) ?_ | ((with_reducible first | refine Wo (fun K hK => ?_) | refine Wp ?_ | refine Wq ?_ | refine Wr ?_); (try simp only [go_sem, fN, seval, eT, iR, w1, w2, w4, t1, t2, t4, tb, ti, n2b, n2i, n3b, n3i, hll, u901, hx, hcs, AS.set, dT, dF, nL]); (repeat with_reducible refine Ai ?_); (try (refine hK _ ?_; clear hK K)); (try with_reducible refine iC ?_)))
      have hd : List.drop 3 (List.map (AC.ren up1) cs) = [] := List.drop_eq_nil_of_le (by simp [hcs])
      rw [hd]
      refine ⟨_, updE (upS S) 1002 (some (boxV ((names.length : Int) - 1 - v))), Ghost.refl _ _, ?_, ?_, ?_, rfl, v, hbd, rfl⟩
      · show updE (updE (updE (upS S) 1901 (some b0)) 1901 (some b1)) 1002 _ = _
        rw [updE_over, updE_swap (by decide)]
      · show Clean (updE (updE (updE (upS S) 1901 (some b0)) 1901 (some b1)) 1002 _)
        rw [updE_over]
        exact clean_upd hhigh (by decide) rfl
      · rw [updE_ne _ (by decide)]
        exact hU
    · repeat' (first | (with_reducible first | refine W ?_ | refine Wz0 ?_) | ((with_reducible first | refine Wo (fun K hK => ?_) | refine Wp ?_ | refine Wq ?_ | refine Wr ?_); (try simp only [go_sem, fN, seval, eT, iR, w4, t4, u901, hx, AS.set, dT, dF, nL]); (repeat with_reducible refine Ai ?_); (try (refine hK _ ?_; clear hK K)); (try with_reducible refine iC ?_)))
      refine ⟨_, upS S, Ghost.refl _ _, by simp only [AS.set, updE_over, u901], by simpa only [AS.set, updE_over, u901] using hhigh, by rw [← u901]; exact hU, rfl, fun i hi => ?_⟩
      rcases List.mem_append.1 hi with hi | hi
      · exact hI i hi
      · rw [List.mem_singleton.1 hi, hx0]
        exact hx
  · rintro U ⟨rfl, h⟩
    rw [dn_upS]
    refine hdone (backF_none fun j hj => ?_)
    rw [decide_eq_true_eq]
    exact h j (by simp [downTo]; exact hj)
  · rintro ex U ⟨rfl, k, hk, rfl⟩
    rw [show (1002 : Nat) = up1 2 from rfl, dnS_upd, dn_upS]
    exact hret k hk

theorem lend_tail (s : ByteArray) (i : Nat) : ∀ k j : Nat, i + j + k ≤ s.size → lend (tailS s i) k j + i = lend s k (i + j)
  | 0, j, _ => by rw [lend, lend]; omega
  | k + 1, j, h => by
    rw [lend, lend]
    have hb : byteAt (tailS s i) j = byteAt s (i + j) := byteN_tail (by omega)
    rw [hb]
    by_cases hl : letterI (byteAt s (i + j)) = true
    · rw [if_pos hl, if_pos hl, lend_tail s i k (j + 1) (by omega)]
      rfl
    · rw [if_neg hl, if_neg hl]
      omega
theorem lendA_tail {s : ByteArray} {i : Nat} (hi : i ≤ s.size) : lendA (tailS s i) 0 = lendA s i - i := by
  have h := lend_tail s i (s.size - i) 0 (by omega)
  unfold lendA
  rw [tail_size, Nat.sub_zero]
  rw [Nat.add_zero] at h
  omega
theorem nm_tail {s : ByteArray} {i : Nat} (hi : i ≤ s.size) : (tailS s i).extract 0 (lendA (tailS s i) 0) = nmAt s i := by
  obtain ⟨l1, l2⟩ := lendA_le hi
  rw [lendA_tail hi, tail_take (by omega)]
  unfold nmAt
  congr 1
  omega
theorem rest_tail {s : ByteArray} {i : Nat} (hi : i ≤ s.size) : (tailS s i).extract (lendA (tailS s i) 0) (tailS s i).size = tailS s (lendA s i) := by
  obtain ⟨l1, l2⟩ := lendA_le hi
  rw [lendA_tail hi, tail_drop (by omega)]
  congr 1
  omega
theorem ltail_nil {s : ByteArray} {i : Nat} (hi : i ≤ s.size) : tailS s i = ⟨#[]⟩ ↔ i = s.size := by
  constructor
  · intro h
    have := tail_size s i
    rw [h] at this
    have h0 : (⟨#[]⟩ : ByteArray).size = 0 := rfl
    omega
  · intro h
    have := tail_size s i
    exact ByteArray.size_eq_zero_iff.1 (by omega)
theorem ahead_tail (s : ByteArray) (i : Nat) : aheadL (tailS s i) = if i < s.size then byteAt s i else 0 := by
  unfold aheadL
  rw [tail_size]
  by_cases h : i < s.size
  · rw [if_neg (by omega), if_pos h, byteN_tail (by omega), Nat.add_zero]
  · rw [if_pos (by omega), if_neg h]
theorem ahead_yes {s : ByteArray} {i : Nat} {c : Int} (h : i < s.size ∧ byteAt s i = c) : aheadL (tailS s i) = c := by
  rw [ahead_tail, if_pos h.1, h.2]
theorem ahead_no {s : ByteArray} {i : Nat} {c : Int} (hc : c ≠ 0) (h : ¬ (i < s.size ∧ byteAt s i = c)) : ¬ aheadL (tailS s i) = c := by
  rw [ahead_tail]
  by_cases h1 : i < s.size
  · rw [if_pos h1]
    exact fun e => h ⟨h1, e⟩
  · rw [if_neg h1]
    exact fun e => hc e.symm
section
variable {s : ByteArray} {nm : AC} {l : Int} {b at_ : Nat} {S : AStore}
theorem lnext_at (hb : 1000 ≤ b) (sb : S b = some (boxL (tailS s at_) nm l)) : ACallsS Tryd.prog 41 [.one (.ptr b 1 0 0)] S (.one (.st (.int .u8 (aheadL (tailS s at_))))) S := lnext_S hb sb
theorem lname_at (hs : s.size ≤ 100000) (hat : at_ ≤ s.size) (hb : 1000 ≤ b) (hnm : nm.high = true) (sb : S b = some (boxL (tailS s at_) nm l)) (h : nmErr s at_ = 0) : ACallsS Tryd.prog 43 [.one (.ptr b 1 0 0)] S (aStr (nmAt s at_)) (updE S b (some (boxL (tailS s (lendA s at_)) nm l))) := by
  have hz := tail_size s at_
  obtain ⟨n1, n2⟩ := (nmErr_ok hat).2.2.2 h
  have := lname_S (u := tailS s at_) (by omega) hb hnm sb (by rw [lendA_tail hat]; omega) (by rw [nm_tail hat]; exact n2)
  rw [nm_tail hat, rest_tail hat] at this
  exact this
theorem lname_pan (hs : s.size ≤ 100000) (hat : at_ ≤ s.size) (hb : 1000 ≤ b) (sb : S b = some (boxL (tailS s at_) nm l)) (h : ¬ nmErr s at_ = 0) : APan Tryd.prog 43 [.one (.ptr b 1 0 0)] S (lfault (nmErr s at_)) (updE S b (some (.dead 1 0))) := by
  have hz := tail_size s at_
  obtain ⟨l1, l2⟩ := lendA_le hat
  refine lname_P (u := tailS s at_) _ (by omega) hb sb ?_
  rw [nm_tail hat, lendA_tail hat]
  unfold nmErr at h ⊢
  by_cases h0 : lendA s at_ = at_
  · rw [if_pos h0] at h ⊢
    by_cases h1 : at_ = s.size
    · rw [if_pos h1]
      exact .inl ⟨by omega, (ltail_nil hat).2 h1, rfl⟩
    · rw [if_neg h1]
      exact .inr (.inl ⟨by omega, fun e => h1 ((ltail_nil hat).1 e), rfl⟩)
  · rw [if_neg h0] at h ⊢
    by_cases h1 : nameOk (nmAt s at_) = true
    · rw [if_pos h1] at h
      exact absurd rfl h
    · rw [if_neg h1]
      exact .inr (.inr ⟨by omega, h1, rfl⟩)
theorem lsign_at {c : Int} (hat : at_ ≤ s.size) (hb : 1000 ≤ b) (hnm : nm.high = true) (sb : S b = some (boxL (tailS s at_) nm l)) (h : wantE s c at_ = 0) : ACallsS Tryd.prog 44 [.one (.ptr b 1 0 0), .one (.st (.int .u8 c))] S (.tup []) (updE S b (some (boxL (tailS s (at_ + 1)) nm l))) := by
  obtain ⟨h1, h2⟩ := (wantE_ok hat).2 h
  have hz := tail_size s at_
  have := lsign_S (u := tailS s at_) c hb hnm sb (by omega) (by rw [byteN_tail (by omega)]; exact h2)
  rw [tail_drop (by omega)] at this
  exact this
theorem lsign_pan {c : Int} (hat : at_ ≤ s.size) (hb : 1000 ≤ b) (sb : S b = some (boxL (tailS s at_) nm l)) (h : ¬ wantE s c at_ = 0) : APan Tryd.prog 44 [.one (.ptr b 1 0 0), .one (.st (.int .u8 c))] S (lfault (wantE s c at_)) (updE S b (some (.dead 1 0))) := by
  have hz := tail_size s at_
  unfold wantE at h ⊢
  by_cases h0 : at_ = s.size
  · rw [if_pos h0]
    exact lsign_P1 (u := tailS s at_) c hb sb ((ltail_nil hat).2 h0)
  · rw [if_neg h0] at h ⊢
    by_cases h1 : byteAt s at_ = c
    · rw [if_pos h1] at h
      exact absurd rfl h
    · rw [if_neg h1]
      exact lsign_P2 (u := tailS s at_) c hb sb (by omega) (by rw [byteN_tail (by omega)]; exact h1)
end
theorem up_boxL {S : AStore} {b i n : Nat} {u : ByteArray} {l : Int} (h : S b = some (boxL u (.row i n) l)) : upS S (up1 b) = some (boxL u (.row (up1 i) n) l) := upS_some h
theorem up_rowL {S : AStore} {i : Nat} {ns : List ByteArray} (h : S i = some (rowL ns)) : upS S (up1 i) = some (rowL ns) := upS_some h
theorem up_none {S : AStore} {i : Nat} (h : S i = none) : upS S (up1 i) = none := by rw [upS_up, h]; rfl
def ldone (S : AStore) (b i ni N : Nat) (ns : List ByteArray) (u : ByteArray) (l : Int) : AStore := updE (updE (updE S i (some (.dead N 1))) ni (some (rowL ns))) b (some (boxL u (.row ni ns.length) l))
def lfail (S : AStore) (b i N : Nat) : AStore := updE (updE S i (some (.dead N 1))) b (some (.dead 1 0))
theorem dn_ldone {S : AStore} {b i ni N : Nat} {ns : List ByteArray} {u : ByteArray} {l : Int} : dnS (ldone (upS S) (up1 b) (up1 i) (up1 ni) N ns u l) = ldone S b i ni N ns u l := by
  unfold ldone
  rw [dnS_upd, dnS_upd, dnS_upd, dn_upS]
  show updE _ b (some (ABlk.box _ [_, AC.row (dn1 (up1 ni)) _, _])) = _
  rw [dn_up]
  rfl
theorem dn_lfail {S : AStore} {b i N : Nat} : dnS (lfail (upS S) (up1 b) (up1 i) N) = lfail S b i N := by
  unfold lfail
  rw [dnS_upd, dnS_upd, dn_upS]
  rfl
def LEnd (t : Lm) (S' : AStore) (x : AS) : Prop := ∃ r0, (resAll x [RV.cell 2 true 3]).map tupV = some r0 ∧ outV x.S r0 = some (aLm t) ∧ ∀ i, 1000 ≤ i → x.S i = S' i
def LRS (f : Nat) (q : LRd) (S S1 S2 : AStore) (b : Nat) : Prop :=
  (q.e = 0 → ACallsS Tryd.prog f [.one (.ptr b 1 0 0)] S (aLm q.t) S1) ∧ (q.e ≠ 0 → APan Tryd.prog f [.one (.ptr b 1 0 0)] S (lfault q.e) S2)
theorem lrs_of {f n : Nat} {mu : List Nat} {x : IR} (o : OkF Tryd.prog f n mu x [.cell 2 true 3]) (hn : 1 ≤ n) {q : LRd} {S S1 S2 : AStore} {b : Nat} (h1 : Clean S → Clean S1) (h2 : Clean S → Clean S2)
    (h : Clean S → ∀ (C : Ctx) (Q : AX → AS → Prop), C.n = n → C.Top → (q.e = 0 → ∀ x y, Ghost C x y → LEnd q.t S1 y → Q .ret x) → (q.e ≠ 0 → ∀ x y, Ghost C x y → (∀ i, 1000 ≤ i → y.S i = S2 i) → Q (.pan (lfault q.e)) x) → IWP Tryd.prog C mu x Q (AS.startS [.one (.ptr b 1 0 0)] S)) : LRS f q S S1 S2 b := by
  refine ⟨fun he => ?_, fun he => ?_⟩
  · refine o.acST (fun hS C hC ht => h hS C _ hC ht (fun _ x y hg hx => ?_) (fun hne => absurd he hne)) hn
    obtain ⟨r0, q1, q2, q3⟩ := hx
    exact finS_ghost hg (finS_same r0 (h1 hS) trivial q1 q2 q3)
  · refine o.acPT (fun hS C hC ht => h hS C _ hC ht (fun h0 => absurd h0 he) (fun _ x y hg hx => ?_)) hn
    have hc := h2 hS
    refine ⟨rfl, _, hg.trans (Ghost.low fun i c hi hc' => ?_), ?_, hc⟩
    · rw [hx i hi] at hc'
      exact (hc i c hc').2
    · funext i
      show (if i < 1000 then none else y.S i) = _
      split
      · exact (clean_none hc (by omega)).symm
      · exact hx i (by omega)
theorem clean_ldone {S : AStore} {b i ni N : Nat} {ns : List ByteArray} {u : ByteArray} {l : Int} (hb : 1000 ≤ b) (hi : 1000 ≤ i) (hn : 1000 ≤ ni) (hS : Clean S) : Clean (ldone S b i ni N ns u l) :=
  clean_upd (clean_upd (clean_upd hS hi rfl) hn rfl) hb (boxL_high (high_row hn))
theorem clean_lfail {S : AStore} {b i N : Nat} (hb : 1000 ≤ b) (hi : 1000 ≤ i) (hS : Clean S) : Clean (lfail S b i N) := clean_upd (clean_upd hS hi rfl) hb rfl
theorem lpanEnd {C : Ctx} {x : AS} {S : AStore} {b i N : Nat} (hne : b ≠ i) (h1 : (∃ ty xs, x.S b = some (.box ty xs)) ∨ x.S b = some (.dead 1 0)) (h2 : (∃ xs, x.S i = some (rowL xs) ∧ xs.length < N) ∨ x.S i = some (.dead N 1)) (h3 : ∀ j, 1000 ≤ j → j ≠ b → j ≠ i → x.S j = S j) : ∃ y, Ghost C x y ∧ ∀ j, 1000 ≤ j → y.S j = lfail S b i N j := by
  obtain ⟨y, hg, hy1, hy2⟩ : ∃ y : AS, Ghost C x y ∧ y.S b = some (.dead 1 0) ∧ ∀ j, j ≠ b → y.S j = x.S j := by
    rcases h1 with ⟨ty, xs, h1⟩ | h1
    · exact ⟨_, Ghost.kill b h1, updE_same _ _ _, fun j hj => updE_ne _ hj _⟩
    · exact ⟨x, Ghost.refl _ _, h1, fun _ _ => rfl⟩
  obtain ⟨z, hg2, hz1, hz2⟩ : ∃ z : AS, Ghost C y z ∧ z.S i = some (.dead N 1) ∧ ∀ j, j ≠ i → z.S j = y.S j := by
    have hyi := hy2 i (fun e => hne e.symm)
    rcases h2 with ⟨xs, h2, hl⟩ | h2
    · exact ⟨_, Ghost.bury i N 1 (hyi.trans h2) ⟨by simpa using hl, rfl⟩, updE_same _ _ _, fun j hj => updE_ne _ hj _⟩
    · exact ⟨y, Ghost.refl _ _, hyi.trans h2, fun _ _ => rfl⟩
  refine ⟨z, hg.trans hg2, fun j hj => ?_⟩
  unfold lfail
  by_cases e1 : j = b
  · subst e1
    rw [hz2 _ hne, hy1, updE_same]
  · rw [updE_ne _ e1]
    by_cases e2 : j = i
    · subst e2
      rw [hz1, updE_same]
    · rw [updE_ne _ e2, hz2 _ e2, hy2 _ e1, h3 j hj e1 e2]
theorem pan_to {C : Ctx} {Q : AX → AS → Prop} {v : Value} {S : AStore} {b i N : Nat} (hne : ¬ b = i) (hpan : ∀ x y, Ghost C x y → (∀ j, 1000 ≤ j → y.S j = lfail S b i N j) → Q (.pan v) x) (x : AS) (h1 : (∃ ty xs, x.S b = some (.box ty xs)) ∨ x.S b = some (.dead 1 0)) (h2 : (∃ xs, x.S i = some (rowL xs) ∧ xs.length < N) ∨ x.S i = some (.dead N 1)) (h3 : ∀ j, 1000 ≤ j → j ≠ b → j ≠ i → x.S j = S j) : Q (.pan v) x := by
  obtain ⟨y, hg, hy⟩ := lpanEnd (C := C) hne h1 h2 h3
  exact hpan x y hg hy
theorem lnameEnd {C : Ctx} {x : AS} {S : AStore} {b i j ni N : Nat} {ns xs : List ByteArray} {u : ByteArray} {l : Int} {c : AC} (hb : x.S b = some (boxL u c l)) (hj : x.S j = some (rowL xs)) (hN : xs.length < N) (hc : c = .part j ns.length xs.length ∨ (c = .row j ns.length ∧ ns.length = xs.length)) (hx : xs.take ns.length = ns) (hni : x.S ni = none) (hbn : b ≠ ni) (h1000 : 1000 ≤ ni)
    (hi : (j = i) ∨ (j < 1000 ∧ x.S i = some (.dead N 1) ∧ i ≠ ni ∧ i ≠ b)) (h3 : ∀ j, 1000 ≤ j → j ≠ b → j ≠ i → x.S j = S j) : ∃ y : AS, y.env = x.env ∧ Ghost C x y ∧ (∀ k, k ≠ b → k ≠ ni → k ≠ j → y.S k = x.S k) ∧ ∀ k, 1000 ≤ k → y.S k = ldone S b i ni N ns u l k := by
  have hjb : b ≠ j := fun e => by subst e; rw [hb] at hj; cases hj
  have hjn : j ≠ ni := fun e => by subst e; rw [hj] at hni; cases hni
  have hg := Ghost.rebase (C := C) (s := x) b j ni 1 ns.length N (xs := xs.map encS) (by simpa using hN) hb hj hni (by
    rw [List.length_map]
    rcases hc with rfl | ⟨rfl, h⟩
    · exact .inl rfl
    · exact .inr ⟨rfl, h⟩)
  refine ⟨_, ?he, hg, fun k k1 k2 k3 => ?_, fun k hk => ?_⟩
  case he => rfl
  · show updE (updE (updE x.S j _) ni _) b _ k = _
    rw [updE_ne _ k1, updE_ne _ k2, updE_ne _ k3]
  show updE (updE (updE x.S j (some (.dead N 1))) ni (some (ABlk.mrow _ 1 ((xs.map encS).take ns.length)))) b (some (ABlk.box _ ([_, c, _].set 1 (.row ni ns.length)))) k = _
  rw [← List.map_take, hx]
  unfold ldone
  by_cases e1 : k = b
  · subst e1
    rw [updE_same, updE_same]
    rfl
  rw [updE_ne _ e1, updE_ne _ e1]
  by_cases e2 : k = ni
  · subst e2
    rw [updE_same, updE_same]
  rw [updE_ne _ e2, updE_ne _ e2]
  rcases hi with rfl | ⟨q1, q2, q3, q4⟩
  · by_cases e3 : k = j
    · subst e3
      rw [updE_same, updE_same]
    · rw [updE_ne _ e3, updE_ne _ e3, h3 k hk e1 e3]
  · rw [updE_ne _ (show k ≠ j by omega)]
    by_cases e3 : k = i
    · subst e3
      rw [updE_same, q2]
    · rw [updE_ne _ e3, h3 k hk e1 e3]
theorem lend_to {C : Ctx} {Q : AX → AS → Prop} {S : AStore} {b i ni N : Nat} {ns : List ByteArray} {u : ByteArray} {l : Int} {t : Lm} (hok : ∀ x y, Ghost C x y → LEnd t (ldone S b i ni N ns u l) y → Q .ret x) (x : AS) (j : Nat) (xs : List ByteArray) (c : AC) (h2 : x.env 2 = .one (.ptr 2 1 0 0)) (s2 : x.S 2 = some (.box 25 [.st (.int .i64 t.kind), .st (.int .i64 t.idx), .st (.list (t.subs.map encL))]))
    (hb : x.S b = some (boxL u c l)) (hj : x.S j = some (rowL xs)) (hN : xs.length < N) (hc : c = .part j ns.length xs.length ∨ (c = .row j ns.length ∧ ns.length = xs.length)) (hx : xs.take ns.length = ns) (hni : x.S ni = none) (hbn : b ≠ ni) (h1000 : 1000 ≤ ni) (hb1000 : 1000 ≤ b)
    (hi : (j = i) ∨ (j < 1000 ∧ x.S i = some (.dead N 1) ∧ i ≠ ni ∧ i ≠ b)) (h3 : ∀ j, 1000 ≤ j → j ≠ b → j ≠ i → x.S j = S j) : Q .ret x := by
  obtain ⟨y, y1, hg, y2, y3⟩ := lnameEnd (C := C) (S := S) (i := i) hb hj hN hc hx hni hbn h1000 hi h3
  have hj2 : 2 ≠ j := fun e => by subst e; rw [s2] at hj; cases hj
  have e2 := y2 2 (by omega) (by omega) hj2
  rw [s2] at e2
  refine hok x y hg ⟨aLm t, ?_, rfl, y3⟩
  rw [← y1] at h2
  simp [resAll, resOne, tupV, h2, e2, blkCells, pack]

set_option maxRecDepth 100000
def ir_lambda_C : IR :=
  (.seq (.ops [.i 2 (.alloc 25 [.st (.int .i64 0), .st (.int .i64 0), .full []])]) (.seq (.ops [.m 3 0, .i 4 (.build [.st (.int .i64 0), .st (.int .i64 0), .full []] [(0, 1, .n 4), (1, 1, .t 3)]), .s 3 2 4]) .ret))
theorem ok_lambda_C : OkF Tryd.prog 59 5 [] ir_lambda_C [.cell 2 true 3] := .of Tryd.func59 rfl rfl (by kernel_rfl) rfl

theorem lC_a (i : Int) : ACalls Tryd.prog 59 [aInt i] (aLm (.mk 4 i [])) := by
  refine ok_lambda_C.ac fun C hC => ?_
  unfold ir_lambda_C
  repeat' (first | (with_reducible first | refine W ?_ | refine Wz0 ?_) | ((with_reducible first | refine Wo (fun K hK => ?_) | refine Wp ?_ | refine Wq ?_ | refine Wr ?_); (try simp only [go_sem, fN, seval, eT, iR, dT, dF, nL]); (repeat with_reducible refine Ai ?_); (try (refine hK _ ?_; clear hK K)); (try with_reducible refine iC ?_)))
  simp only [go_sem, fN, seval, FinQ, AS.result, resAll, resOne, tupV]
  simp [Lm.kind_mk, Lm.idx_mk, Lm.subs_mk, encL_eq]

set_option maxHeartbeats 2000000
def LT (s : ByteArray) (f : Nat) : Prop := ∀ (ns : List ByteArray) (at_ k b i ni N : Nat) (S : AStore), at_ ≤ s.size → k ≤ 200 → 3 * (s.size - at_) + 2 < f → ns.length + (s.size - at_) + 1 < N → N ≤ 1000000 → 1000 ≤ b → 1000 ≤ i → 1000 ≤ ni →
  S b = some (boxL (tailS s at_) (.row i ns.length) (200 - k)) → S i = some (rowL ns) → S ni = none → LRS 30 (lrT s f ns at_ k) S (ldone S b i ni N ns (tailS s (lrT s f ns at_ k).i) (200 - (lrT s f ns at_ k).k)) (lfail S b i N) b
def LPc (s : ByteArray) (f : Nat) : Prop := ∀ (ns : List ByteArray) (at_ k b i ni N : Nat) (S : AStore), at_ ≤ s.size → k ≤ 200 → 3 * (s.size - at_) + 1 < f → ns.length + (s.size - at_) + 1 < N → N ≤ 1000000 → 1000 ≤ b → 1000 ≤ i → 1000 ≤ ni →
  S b = some (boxL (tailS s at_) (.row i ns.length) (200 - k)) → S i = some (rowL ns) → S ni = none → LRS 46 (lrP s f ns at_ k) S (ldone S b i ni N ns (tailS s (lrP s f ns at_ k).i) (200 - (lrP s f ns at_ k).k)) (lfail S b i N) b
set_option maxRecDepth 100000 in
theorem piece_S {s : ByteArray} (hs : s.size ≤ 100000) {f : Nat} (hT : LT s f) : LPc s (f + 1) := by
  intro ns at_ k b i ni N S hat hk hf hN hN2 hb hi hni sb si sni
  have hbi : ¬ b = i := fun e => by subst e; rw [sb] at si; cases si
  have hbn : ¬ b = ni := fun e => by subst e; rw [sb] at sni; cases sni
  have hin : ¬ i = ni := fun e => by subst e; rw [si] at sni; cases sni
  have hib : ¬ i = b := fun e => hbi e.symm
  have hnb : ¬ ni = b := fun e => hbn e.symm
  have hnj : ¬ ni = i := fun e => hin e.symm
  have hus := tail_size s at_
  obtain ⟨q, hq⟩ : ∃ q, lrP s (f + 1) ns at_ k = q := ⟨_, rfl⟩
  rw [hq]
  refine lrs_of ok_metaprune_lambda_reader_piece (by decide) (clean_ldone hb hi hni) (clean_lfail hb hi) fun hS C Q hC htop hok hpan => ?_
  have n1 : S 1 = none := clean_none hS (by omega)
  have n2 : S 2 = none := clean_none hS (by omega)
  have n3 : S 3 = none := clean_none hS (by omega)
  have n4 : S 4 = none := clean_none hS (by omega)
  have n5 : S 5 = none := clean_none hS (by omega)
  have n900 : S 900 = none := clean_none hS (by omega)
  have n901 : S 901 = none := clean_none hS (by omega)
  unfold ir_metaprune_lambda_reader_piece
  repeat' (first | (with_reducible first | refine W ?_ | refine Wz0 ?_) | ((with_reducible first | refine Wx rfl (fun K hK => ?_) | refine Wp ?_ | refine Wq ?_ | refine Wr ?_); (try simp only [go_sem, fN, seval, eT, iR, AS.startS, hi_ne, lo_ne, hb, hi, hni, n1, n2, n3, n4, n5, n900, n901, hbi, hib, hbn, hnb, hin, hnj, dT, dF, nL]); (repeat with_reducible refine Ai ?_); (try (refine hK _ ?_; clear hK K)); (try with_reducible refine iC ?_)))
  refine ⟨_, _, lnext_at (s := s) (at_ := at_) (nm := .row (up1 i) ns.length) (l := 200 - k) (up1_le b) (up_boxL (by simp only [go_sem, fN, seval, eT, iR, hi_ne, lo_ne, hb, hi, hni, n1, n2, n3, n4, n5, n900, n901, hbi, hib, hbn, hnb, hin, hnj, sb])), ?_⟩
  by_cases h0 : at_ < s.size ∧ byteAt s at_ = 40
  · have ha := ahead_yes h0
    obtain ⟨h0, h0'⟩ := h0
    rw [lrP, if_pos ⟨h0, h0'⟩] at hq
    have hdr := tail_drop (s := s) (i := at_) (n := 1) (by omega)
    have h1i : (1 : Int) ≤ (tailS s at_).size := by omega
    have hc := hT ns (at_ + 1) k (up1 b) (up1 i) (up1 900) N
    by_cases he : (lrT s f ns (at_ + 1) k).e = 0
    case neg =>
      rw [if_neg he] at hq
      subst hq
      repeat' (first | (with_reducible first | refine W ?_ | refine Wz0 ?_) | (first | refine IWP.opsPan 1 ⟨some 21, none, .callS 30 [.t 20], .no⟩ rfl (by kernel_rfl) ?_) | ((with_reducible first | refine Wx rfl (fun K hK => ?_) | refine Wp ?_ | refine Wq ?_ | refine Wr ?_); (try simp only [go_sem, fN, seval, eT, iR, hi_ne, lo_ne, hb, hi, hni, n1, n2, n3, n4, n5, n900, n901, hbi, hib, hbn, hnb, hin, hnj, ha, sb, hdr, h1i, dT, dF, nL]); (repeat with_reducible refine Ai ?_); (try (refine hK _ ?_; clear hK K)); (try with_reducible refine iC ?_)))
      simp only [go_sem, fN, seval, eT, iR, PanAt, List.take_succ_cons, List.take_zero, hi_ne, lo_ne, hb, hi, hni, n1, n2, n3, n4, n5, n900, n901, hbi, hib, hbn, hnb, hin, hnj]
      refine ⟨_, _, (hc _ (by omega) hk (by omega) (by omega) hN2 (up1_le b) (up1_le i) (up1_le 900) (up_boxL (by simp only [go_sem, fN, seval, eT, iR, hi_ne, lo_ne, hb, hi, hni, n1, n2, n3, n4, n5, n900, n901, hbi, hib, hbn, hnb, hin, hnj, sb])) (up_rowL (by simp only [go_sem, fN, seval, eT, iR, hi_ne, lo_ne, hb, hi, hni, n1, n2, n3, n4, n5, n900, n901, hbi, hib, hbn, hnb, hin, hnj, si])) (up_none (by simp only [go_sem, fN, seval, eT, iR, hi_ne, lo_ne, hb, hi, hni, n1, n2, n3, n4, n5, n900, n901, hbi, hib, hbn, hnb, hin, hnj]))).2 he, fun envP => ?_⟩
      repeat' (with_reducible first | refine Wy ?_ | refine Wz ?_ | refine Wv ?_)
      refine pan_to hbi (hpan he) _ (.inr ?_) (.inr ?_) fun j j1 j2 j3 => ?_
      · simp only [go_sem, fN, seval, eT, iR, dn_lfail, lfail, hi_ne, lo_ne, hb, hi, hni, n1, n2, n3, n4, n5, n900, n901, hbi, hib, hbn, hnb, hin, hnj]
      · simp only [go_sem, fN, seval, eT, iR, dn_lfail, lfail, hi_ne, lo_ne, hb, hi, hni, n1, n2, n3, n4, n5, n900, n901, hbi, hib, hbn, hnb, hin, hnj]
      · simp only [go_sem, fN, seval, eT, iR, dn_lfail, lfail, hi_ne, lo_ne, j1, j2, j3]
    case pos =>
    rw [if_pos he] at hq
    have hqo := lrT_ok s f ns (at_ + 1) k (by omega) hk (by omega)
    obtain ⟨o1, o2, o3, o4⟩ := hqo.ok he
    repeat' (first | (with_reducible first | refine W ?_ | refine Wz0 ?_) | ((with_reducible first | refine Wx rfl (fun K hK => ?_) | refine Wp ?_ | refine Wq ?_ | refine Wr ?_); (try simp only [go_sem, fN, seval, eT, iR, hi_ne, lo_ne, hb, hi, hni, n1, n2, n3, n4, n5, n900, n901, hbi, hib, hbn, hnb, hin, hnj, ha, sb, hdr, h1i, dT, dF, nL]); (repeat with_reducible refine Ai ?_); (try (refine hK _ ?_; clear hK K)); (try with_reducible refine iC ?_)))
    refine ⟨_, _, (hc _ (by omega) hk (by omega) (by omega) hN2 (up1_le b) (up1_le i) (up1_le 900) (up_boxL (by simp only [go_sem, fN, seval, eT, iR, hi_ne, lo_ne, hb, hi, hni, n1, n2, n3, n4, n5, n900, n901, hbi, hib, hbn, hnb, hin, hnj, sb])) (up_rowL (by simp only [go_sem, fN, seval, eT, iR, hi_ne, lo_ne, hb, hi, hni, n1, n2, n3, n4, n5, n900, n901, hbi, hib, hbn, hnb, hin, hnj, si])) (up_none (by simp only [go_sem, fN, seval, eT, iR, hi_ne, lo_ne, hb, hi, hni, n1, n2, n3, n4, n5, n900, n901, hbi, hib, hbn, hnb, hin, hnj]))).1 he, ?_⟩
    clear hc hT
    generalize lrT s f ns (at_ + 1) k = p at *
    by_cases hw : wantE s 41 p.i = 0
    case neg =>
      subst hq
      repeat' (first | (with_reducible first | refine W ?_ | refine Wz0 ?_) | (first | refine IWP.opsPan 1 ⟨some 23, none, .callS 44 [.t 22, .c (.one (.st (.int .u8 41)))], .no⟩ rfl (by kernel_rfl) ?_) | ((with_reducible first | refine Wx rfl (fun K hK => ?_) | refine Wp ?_ | refine Wq ?_ | refine Wr ?_); (try simp only [go_sem, fN, seval, eT, iR, dn_ldone, ldone, hi_ne, lo_ne, hb, hi, hni, n1, n2, n3, n4, n5, n900, n901, hbi, hib, hbn, hnb, hin, hnj, ha, sb, hdr, h1i, dT, dF, nL]); (repeat with_reducible refine Ai ?_); (try (refine hK _ ?_; clear hK K)); (try with_reducible refine iC ?_)))
      simp only [go_sem, fN, seval, eT, iR, PanAt, List.take_succ_cons, List.take_zero, hi_ne, lo_ne, hb, hi, hni, n1, n2, n3, n4, n5, n900, n901, hbi, hib, hbn, hnb, hin, hnj]
      refine ⟨_, _, lsign_pan (c := 41) (nm := .row (up1 900) ns.length) (l := 200 - p.k) o1 (up1_le b) (up_boxL (by simp only [go_sem, fN, seval, eT, iR, hi_ne, lo_ne, hb, hi, hni, n1, n2, n3, n4, n5, n900, n901, hbi, hib, hbn, hnb, hin, hnj])) hw, fun envP => ?_⟩
      repeat' (with_reducible first | refine Wy ?_ | refine Wz ?_ | refine Wv ?_)
      refine pan_to hbi (hpan hw) _ (.inr ?_) (.inr ?_) fun j j1 j2 j3 => ?_
      · simp only [go_sem, fN, seval, eT, iR, hi_ne, lo_ne, hb, hi, hni, n1, n2, n3, n4, n5, n900, n901, hbi, hib, hbn, hnb, hin, hnj]
      · simp only [go_sem, fN, seval, eT, iR, hi_ne, lo_ne, hb, hi, hni, n1, n2, n3, n4, n5, n900, n901, hbi, hib, hbn, hnb, hin, hnj]
      · simp only [go_sem, fN, seval, eT, iR, hi_ne, lo_ne, j1, j2, j3]
    case pos =>
      subst hq
      repeat' (first | (with_reducible first | refine W ?_ | refine Wz0 ?_) | ((with_reducible first | refine Wx rfl (fun K hK => ?_) | refine Wp ?_ | refine Wq ?_ | refine Wr ?_); (try simp only [go_sem, fN, seval, eT, iR, dn_ldone, ldone, hi_ne, lo_ne, hb, hi, hni, n1, n2, n3, n4, n5, n900, n901, hbi, hib, hbn, hnb, hin, hnj, ha, sb, hdr, h1i, dT, dF, nL]); (repeat with_reducible refine Ai ?_); (try (refine hK _ ?_; clear hK K)); (try with_reducible refine iC ?_)))
      refine ⟨_, _, lsign_at (c := 41) (nm := .row (up1 900) ns.length) (l := 200 - p.k) o1 (up1_le b) (high_row (up1_le 900)) (up_boxL (by simp only [go_sem, fN, seval, eT, iR, hi_ne, lo_ne, hb, hi, hni, n1, n2, n3, n4, n5, n900, n901, hbi, hib, hbn, hnb, hin, hnj])) hw, ?_⟩
      repeat' (first | (with_reducible first | refine W ?_ | refine Wz0 ?_) | ((with_reducible first | refine Wx rfl (fun K hK => ?_) | refine Wp ?_ | refine Wq ?_ | refine Wr ?_); (try simp only [go_sem, fN, seval, eT, iR, dn_ldone, ldone, hi_ne, lo_ne, hb, hi, hni, n1, n2, n3, n4, n5, n900, n901, hbi, hib, hbn, hnb, hin, hnj, ha, sb, hdr, h1i, dT, dF, nL]); (repeat with_reducible refine Ai ?_); (try (refine hK _ ?_; clear hK K)); (try with_reducible refine iC ?_)))
      refine lend_to (hok hw) _ 900 ns (.row 900 ns.length) rfl ?_ ?_ ?_ (by omega) (.inr ⟨rfl, rfl⟩) (List.take_length) ?_ hbn hni hb (.inr ⟨by decide, ?_, hin, hib⟩) fun j j1 j2 j3 => ?_
      · simp only [go_sem, fN, seval, eT, iR, hi_ne, lo_ne, hb, hi, hni, n1, n2, n3, n4, n5, n900, n901, hbi, hib, hbn, hnb, hin, hnj]
      · simp only [go_sem, fN, seval, eT, iR, hi_ne, lo_ne, hb, hi, hni, n1, n2, n3, n4, n5, n900, n901, hbi, hib, hbn, hnb, hin, hnj]
      · simp only [go_sem, fN, seval, eT, iR, hi_ne, lo_ne, hb, hi, hni, n1, n2, n3, n4, n5, n900, n901, hbi, hib, hbn, hnb, hin, hnj]
      · simp only [go_sem, fN, seval, eT, iR, hi_ne, lo_ne, hb, hi, hni, n1, n2, n3, n4, n5, n900, n901, hbi, hib, hbn, hnb, hin, hnj, sni]
      · simp only [go_sem, fN, seval, eT, iR, hi_ne, lo_ne, hb, hi, hni, n1, n2, n3, n4, n5, n900, n901, hbi, hib, hbn, hnb, hin, hnj]
      · simp only [go_sem, fN, seval, eT, iR, hi_ne, lo_ne, j1, j2, j3]
  have ha := ahead_no (c := 40) (by decide) h0
  rw [lrP, if_neg h0] at hq
  obtain ⟨m1, m2, m3, m4⟩ := nmErr_ok hat
  clear hT
  by_cases he : nmErr s at_ = 0
  case neg =>
    rw [if_neg he] at hq
    subst hq
    repeat' (first | (with_reducible first | refine W ?_ | refine Wz0 ?_) | (first | refine IWP.opsPan 1 ⟨some 26, none, .callS 43 [.t 25], .no⟩ rfl (by kernel_rfl) ?_) | ((with_reducible first | refine Wx rfl (fun K hK => ?_) | refine Wp ?_ | refine Wq ?_ | refine Wr ?_); (try simp only [go_sem, fN, seval, eT, iR, hi_ne, lo_ne, hb, hi, hni, n1, n2, n3, n4, n5, n900, n901, hbi, hib, hbn, hnb, hin, hnj, ha, sb, dT, dF, nL]); (repeat with_reducible refine Ai ?_); (try (refine hK _ ?_; clear hK K)); (try with_reducible refine iC ?_)))
    simp only [go_sem, fN, seval, eT, iR, PanAt, List.take_succ_cons, List.take_zero, hi_ne, lo_ne, hb, hi, hni, n1, n2, n3, n4, n5, n900, n901, hbi, hib, hbn, hnb, hin, hnj]
    refine ⟨_, _, lname_pan (nm := .row (up1 i) ns.length) (l := 200 - k) hs hat (up1_le b) (up_boxL (by simp only [go_sem, fN, seval, eT, iR, hi_ne, lo_ne, hb, hi, hni, n1, n2, n3, n4, n5, n900, n901, hbi, hib, hbn, hnb, hin, hnj, sb])) he, fun envP => ?_⟩
    repeat' (with_reducible first | refine Wy ?_ | refine Wz ?_ | refine Wv ?_)
    refine pan_to hbi (hpan he) _ (.inr ?_) (.inl ⟨ns, ?_, by omega⟩) fun j j1 j2 j3 => ?_
    · simp only [go_sem, fN, seval, eT, iR, hi_ne, lo_ne, hb, hi, hni, n1, n2, n3, n4, n5, n900, n901, hbi, hib, hbn, hnb, hin, hnj]
    · simp only [go_sem, fN, seval, eT, iR, hi_ne, lo_ne, hb, hi, hni, n1, n2, n3, n4, n5, n900, n901, hbi, hib, hbn, hnb, hin, hnj, si]
    · simp only [go_sem, fN, seval, eT, iR, hi_ne, lo_ne, j1, j2, j3]
  case pos =>
  rw [if_pos he] at hq
  obtain ⟨m5, m6⟩ := m4 he
  obtain ⟨z1, z8, zl⟩ := nameOk_cases m6
  obtain ⟨nm, hnm⟩ : ∃ nm, nmAt s at_ = nm := ⟨_, rfl⟩
  repeat' (first | (with_reducible first | refine W ?_ | refine Wz0 ?_) | ((with_reducible first | refine Wx rfl (fun K hK => ?_) | refine Wp ?_ | refine Wq ?_ | refine Wr ?_); (try simp only [go_sem, fN, seval, eT, iR, hi_ne, lo_ne, hb, hi, hni, n1, n2, n3, n4, n5, n900, n901, hbi, hib, hbn, hnb, hin, hnj, ha, sb, dT, dF, nL]); (repeat with_reducible refine Ai ?_); (try (refine hK _ ?_; clear hK K)); (try with_reducible refine iC ?_)))
  refine ⟨_, _, lname_at (nm := .row (up1 i) ns.length) (l := 200 - k) hs hat (up1_le b) (high_row (up1_le i)) (up_boxL (by simp only [go_sem, fN, seval, eT, iR, hi_ne, lo_ne, hb, hi, hni, n1, n2, n3, n4, n5, n900, n901, hbi, hib, hbn, hnb, hin, hnj, sb])) he, ?_⟩
  rw [hnm] at hq m6 z1 z8 zl ⊢
  by_cases hk2 : 200 < k + 1
  · have hqe : q.e = 3 := by
      rw [← hq]
      unfold lrV
      split <;> exact if_pos hk2
    rw [hqe] at hpan
    repeat' (first | (with_reducible first | refine W ?_ | refine Wz0 ?_) | (first | refine IWP.opsPan 1 ⟨some 28, none, .callS 42 [.t 27], .no⟩ rfl (by kernel_rfl) ?_) | ((with_reducible first | refine Wx rfl (fun K hK => ?_) | refine Wp ?_ | refine Wq ?_ | refine Wr ?_); (try simp only [go_sem, fN, seval, eT, iR, hi_ne, lo_ne, hb, hi, hni, n1, n2, n3, n4, n5, n900, n901, hbi, hib, hbn, hnb, hin, hnj, ha, sb, dT, dF, nL]); (repeat with_reducible refine Ai ?_); (try (refine hK _ ?_; clear hK K)); (try with_reducible refine iC ?_)))
    simp only [go_sem, fN, seval, eT, iR, PanAt, List.take_succ_cons, List.take_zero, hi_ne, lo_ne, hb, hi, hni, n1, n2, n3, n4, n5, n900, n901, hbi, hib, hbn, hnb, hin, hnj]
    refine ⟨_, _, ltake_P (nm := .row (up1 i) ns.length) (u := tailS s (lendA s at_)) (l := 200 - k) (up1_le b) (high_row (up1_le i)) (up_boxL (by simp only [go_sem, fN, seval, eT, iR, hi_ne, lo_ne, hb, hi, hni, n1, n2, n3, n4, n5, n900, n901, hbi, hib, hbn, hnb, hin, hnj, sb])) (by omega) (by omega), fun envP => ?_⟩
    repeat' (with_reducible first | refine Wy ?_ | refine Wz ?_ | refine Wv ?_)
    refine pan_to hbi (hpan (by decide)) _ (.inr ?_) (.inl ⟨ns, ?_, by omega⟩) fun j j1 j2 j3 => ?_
    · simp only [go_sem, fN, seval, eT, iR, hi_ne, lo_ne, hb, hi, hni, n1, n2, n3, n4, n5, n900, n901, hbi, hib, hbn, hnb, hin, hnj]
    · simp only [go_sem, fN, seval, eT, iR, hi_ne, lo_ne, hb, hi, hni, n1, n2, n3, n4, n5, n900, n901, hbi, hib, hbn, hnb, hin, hnj, si]
    · simp only [go_sem, fN, seval, eT, iR, hi_ne, lo_ne, j1, j2, j3]
  repeat' (first | (with_reducible first | refine W ?_ | refine Wz0 ?_) | ((with_reducible first | refine Wx rfl (fun K hK => ?_) | refine Wp ?_ | refine Wq ?_ | refine Wr ?_); (try simp only [go_sem, fN, seval, eT, iR, hi_ne, lo_ne, hb, hi, hni, n1, n2, n3, n4, n5, n900, n901, hbi, hib, hbn, hnb, hin, hnj, ha, sb, dT, dF, nL]); (repeat with_reducible refine Ai ?_); (try (refine hK _ ?_; clear hK K)); (try with_reducible refine iC ?_)))
  refine ⟨_, _, ltake_S (nm := .row (up1 i) ns.length) (u := tailS s (lendA s at_)) (l := 200 - k) (up1_le b) (high_row (up1_le i)) (up_boxL (by simp only [go_sem, fN, seval, eT, iR, hi_ne, lo_ne, hb, hi, hni, n1, n2, n3, n4, n5, n900, n901, hbi, hib, hbn, hnb, hin, hnj, sb])) (by omega) (by omega), ?_⟩
  repeat' (first | (with_reducible first | refine W ?_ | refine Wz0 ?_) | ((with_reducible first | refine Wx rfl (fun K hK => ?_) | refine Wp ?_ | refine Wq ?_ | refine Wr ?_); (try simp only [go_sem, fN, seval, eT, iR, hi_ne, lo_ne, hb, hi, hni, n1, n2, n3, n4, n5, n900, n901, hbi, hib, hbn, hnb, hin, hnj, ha, sb, dT, dF, nL]); (repeat with_reducible refine Ai ?_); (try (refine hK _ ?_; clear hK K)); (try with_reducible refine iC ?_)))
  refine ⟨_, _, backward_M _ (up1 900) (up1 i) ns.length (up1_le 900) (up1_le i) (up_none (by simp only [go_sem, fN, seval, eT, iR, hi_ne, lo_ne, hb, hi, hni, n1, n2, n3, n4, n5, n900, n901, hbi, hib, hbn, hnb, hin, hnj])), ?_⟩
  repeat' (first | (with_reducible first | refine W ?_ | refine Wz0 ?_) | ((with_reducible first | refine Wx rfl (fun K hK => ?_) | refine Wp ?_ | refine Wq ?_ | refine Wr ?_); (try simp only [go_sem, fN, seval, eT, iR, hi_ne, lo_ne, hb, hi, hni, n1, n2, n3, n4, n5, n900, n901, hbi, hib, hbn, hnb, hin, hnj, ha, sb, dT, dF, nL]); (repeat with_reducible refine Ai ?_); (try (refine hK _ ?_; clear hK K)); (try with_reducible refine iC ?_)))
  refine pieceLoop2 htop hC ns (by omega) nm b i hb (tailS s (lendA s at_)) (200 - k - 1) 52 _ _ (by simp only [go_sem, fN, seval, eT, iR, hi_ne, lo_ne, hb, hi, hni, n1, n2, n3, n4, n5, n900, n901, hbi, hib, hbn, hnb, hin, hnj]) (by simp only [go_sem, fN, seval, eT, iR, hi_ne, lo_ne, hb, hi, hni, n1, n2, n3, n4, n5, n900, n901, hbi, hib, hbn, hnb, hin, hnj]) (by simp only [go_sem, fN, seval, eT, iR, hi_ne, lo_ne, hb, hi, hni, n1, n2, n3, n4, n5, n900, n901, hbi, hib, hbn, hnb, hin, hnj]) (by simp only [go_sem, fN, seval, eT, iR, hi_ne, lo_ne, hb, hi, hni, n1, n2, n3, n4, n5, n900, n901, hbi, hib, hbn, hnb, hin, hnj]) (e1 := 56) (cs := [.st (.int .i64 0), .st (.int .i64 0), .full []]) (by simp only [go_sem, fN, seval, eT, iR, hi_ne, lo_ne, hb, hi, hni, n1, n2, n3, n4, n5, n900, n901, hbi, hib, hbn, hnb, hin, hnj]) rfl (by simp only [go_sem, fN, seval, eT, iR, hi_ne, lo_ne, hb, hi, hni, n1, n2, n3, n4, n5, n900, n901, hbi, hib, hbn, hnb, hin, hnj]) (by simp only [go_sem, fN, seval, eT, iR, hi_ne, lo_ne, hb, hi, hni, n1, n2, n3, n4, n5, n900, n901, hbi, hib, hbn, hnb, hin, hnj]) (by simp only [go_sem, fN, seval, eT, iR, hi_ne, lo_ne, hb, hi, hni, n1, n2, n3, n4, n5, n900, n901, hbi, hib, hbn, hnb, hin, hnj]) (by simp only [go_sem, fN, seval, eT, iR, hi_ne, lo_ne, hb, hi, hni, n1, n2, n3, n4, n5, n900, n901, hbi, hib, hbn, hnb, hin, hnj, si]) (by simp only [go_sem, fN, seval, eT, iR, hi_ne, lo_ne, hb, hi, hni, n1, n2, n3, n4, n5, n900, n901, hbi, hib, hbn, hnb, hin, hnj]) (by simp only [go_sem, fN, seval, eT, iR, hi_ne, lo_ne, hb, hi, hni, n1, n2, n3, n4, n5, n900, n901, hbi, hib, hbn, hnb, hin, hnj]) (fun hbd => ?_) fun kk hbd => ?_
  · have hqc : q = ⟨.mk 4 (constOf nm) [], lendA s at_, k + 1, if constOf nm < 0 then 15 else 0⟩ := by
      rw [← hq]
      unfold lrV
      rw [hbd]
      simp only [if_neg hk2]
    have n0 : 0 < nm.size := z1
    have z1' : (1 : Int) ≤ nm.size := by omega
    have hz : (rest1 nm).size ≤ 18 := by rw [rest1_size]; omega
    have hat0 := @atoi_no (rest1 nm) hz
    have hatn := fun n => @atoi_a (rest1 nm) n hz
    clear hq
    cases hq2 : Lib.atoi (rest1 nm).data.toList with
    | none =>
      have hc : constOf nm = -1 := constOf_no fun ⟨_, n, h, _⟩ => by rw [hq2] at h; cases h
      rw [hc, if_pos (by decide)] at hqc
      subst hqc
      have hA := hat0 hq2
      unfold rest1 at hA
      by_cases h99 : byteAt nm 0 = 99
      · repeat' (first | (with_reducible first | refine W ?_ | refine Wz0 ?_) | refine Cg _ (hA) ?_ | ((with_reducible first | refine Wx rfl (fun K hK => ?_) | refine Wp ?_ | refine Wq ?_ | refine Wr ?_); (try simp only [go_sem, fN, seval, eT, iR, hi_ne, lo_ne, hb, hi, hni, n1, n2, n3, n4, n5, n900, n901, hbi, hib, hbn, hnb, hin, hnj, z1', n0, byteN_eq, h99, aErr, dT, dF, nL]); (repeat with_reducible refine Ai ?_); (try (refine hK _ ?_; clear hK K)); (try with_reducible refine iC ?_)))
        refine IWP.opsPan 1 _ rfl (by kernel_rfl) ?_
        simp only [go_sem, fN, seval, eT, iR, PanAt, List.take_succ_cons, List.take_zero]
        intro envP
        repeat' (with_reducible first | refine Wy ?_ | refine Wz ?_ | refine Wv ?_)
        refine pan_to hbi (hpan (by show ¬ (15 : Int) = 0; decide)) _ (.inl ⟨59, [.st (.str (tailS s (lendA s at_))), .row i ns.length, .st (.int .i64 (200 - k - 1))], ?_⟩) (.inl ⟨ns, ?_, by omega⟩) fun j j1 j2 j3 => ?_
        · simp only [go_sem, fN, seval, eT, iR, hi_ne, lo_ne, hb, hi, hni, n1, n2, n3, n4, n5, n900, n901, hbi, hib, hbn, hnb, hin, hnj]
        · simp only [go_sem, fN, seval, eT, iR, hi_ne, lo_ne, hb, hi, hni, n1, n2, n3, n4, n5, n900, n901, hbi, hib, hbn, hnb, hin, hnj, si]
        · simp only [go_sem, fN, seval, eT, iR, hi_ne, lo_ne, j1, j2, j3]
      · repeat' (first | (with_reducible first | refine W ?_ | refine Wz0 ?_) | refine Cg _ (hA) ?_ | ((with_reducible first | refine Wx rfl (fun K hK => ?_) | refine Wp ?_ | refine Wq ?_ | refine Wr ?_); (try simp only [go_sem, fN, seval, eT, iR, hi_ne, lo_ne, hb, hi, hni, n1, n2, n3, n4, n5, n900, n901, hbi, hib, hbn, hnb, hin, hnj, z1', n0, byteN_eq, h99, aErr, dT, dF, nL]); (repeat with_reducible refine Ai ?_); (try (refine hK _ ?_; clear hK K)); (try with_reducible refine iC ?_)))
        refine IWP.opsPan 1 _ rfl (by kernel_rfl) ?_
        simp only [go_sem, fN, seval, eT, iR, PanAt, List.take_succ_cons, List.take_zero]
        intro envP
        repeat' (with_reducible first | refine Wy ?_ | refine Wz ?_ | refine Wv ?_)
        refine pan_to hbi (hpan (by show ¬ (15 : Int) = 0; decide)) _ (.inl ⟨59, [.st (.str (tailS s (lendA s at_))), .row i ns.length, .st (.int .i64 (200 - k - 1))], ?_⟩) (.inl ⟨ns, ?_, by omega⟩) fun j j1 j2 j3 => ?_
        · simp only [go_sem, fN, seval, eT, iR, hi_ne, lo_ne, hb, hi, hni, n1, n2, n3, n4, n5, n900, n901, hbi, hib, hbn, hnb, hin, hnj]
        · simp only [go_sem, fN, seval, eT, iR, hi_ne, lo_ne, hb, hi, hni, n1, n2, n3, n4, n5, n900, n901, hbi, hib, hbn, hnb, hin, hnj, si]
        · simp only [go_sem, fN, seval, eT, iR, hi_ne, lo_ne, j1, j2, j3]
    | some n =>
      have hA := hatn n hq2
      have hI := itoaAll_a n
      unfold rest1 at hA
      by_cases h99 : byteAt nm 0 = 99
      case neg =>
        have hc : constOf nm = -1 := constOf_no fun ⟨h, _⟩ => h99 h
        rw [hc, if_pos (by decide)] at hqc
        subst hqc
        repeat' (first | (with_reducible first | refine W ?_ | refine Wz0 ?_) | refine Cg _ (hA) ?_ | ((with_reducible first | refine Wx rfl (fun K hK => ?_) | refine Wp ?_ | refine Wq ?_ | refine Wr ?_); (try simp only [go_sem, fN, seval, eT, iR, hi_ne, lo_ne, hb, hi, hni, n1, n2, n3, n4, n5, n900, n901, hbi, hib, hbn, hnb, hin, hnj, z1', n0, byteN_eq, h99, aNilI, dT, dF, nL]); (repeat with_reducible refine Ai ?_); (try (refine hK _ ?_; clear hK K)); (try with_reducible refine iC ?_)))
        refine IWP.opsPan 1 _ rfl (by kernel_rfl) ?_
        simp only [go_sem, fN, seval, eT, iR, PanAt, List.take_succ_cons, List.take_zero]
        intro envP
        repeat' (with_reducible first | refine Wy ?_ | refine Wz ?_ | refine Wv ?_)
        refine pan_to hbi (hpan (by show ¬ (15 : Int) = 0; decide)) _ (.inl ⟨59, [.st (.str (tailS s (lendA s at_))), .row i ns.length, .st (.int .i64 (200 - k - 1))], ?_⟩) (.inl ⟨ns, ?_, by omega⟩) fun j j1 j2 j3 => ?_
        · simp only [go_sem, fN, seval, eT, iR, hi_ne, lo_ne, hb, hi, hni, n1, n2, n3, n4, n5, n900, n901, hbi, hib, hbn, hnb, hin, hnj]
        · simp only [go_sem, fN, seval, eT, iR, hi_ne, lo_ne, hb, hi, hni, n1, n2, n3, n4, n5, n900, n901, hbi, hib, hbn, hnb, hin, hnj, si]
        · simp only [go_sem, fN, seval, eT, iR, hi_ne, lo_ne, j1, j2, j3]
      case pos =>
      by_cases hit : (⟨(Lib.itoa n).toArray⟩ : ByteArray) = rest1 nm
      case neg =>
        have hc : constOf nm = -1 := constOf_no fun ⟨_, n', h, h', _⟩ => hit (by rw [hq2] at h; cases h; exact h')
        rw [hc, if_pos (by decide)] at hqc
        subst hqc
        unfold rest1 at hit
        repeat' (first | (with_reducible first | refine W ?_ | refine Wz0 ?_) | refine Cg _ (hA) ?_ | refine Cg _ (hI) ?_ | ((with_reducible first | refine Wx rfl (fun K hK => ?_) | refine Wp ?_ | refine Wq ?_ | refine Wr ?_); (try simp only [go_sem, fN, seval, eT, iR, hi_ne, lo_ne, hb, hi, hni, n1, n2, n3, n4, n5, n900, n901, hbi, hib, hbn, hnb, hin, hnj, z1', n0, byteN_eq, h99, aNilI, hit, dT, dF, nL]); (repeat with_reducible refine Ai ?_); (try (refine hK _ ?_; clear hK K)); (try with_reducible refine iC ?_)))
        refine IWP.opsPan 1 _ rfl (by kernel_rfl) ?_
        simp only [go_sem, fN, seval, eT, iR, PanAt, List.take_succ_cons, List.take_zero]
        intro envP
        repeat' (with_reducible first | refine Wy ?_ | refine Wz ?_ | refine Wv ?_)
        refine pan_to hbi (hpan (by show ¬ (15 : Int) = 0; decide)) _ (.inl ⟨59, [.st (.str (tailS s (lendA s at_))), .row i ns.length, .st (.int .i64 (200 - k - 1))], ?_⟩) (.inl ⟨ns, ?_, by omega⟩) fun j j1 j2 j3 => ?_
        · simp only [go_sem, fN, seval, eT, iR, hi_ne, lo_ne, hb, hi, hni, n1, n2, n3, n4, n5, n900, n901, hbi, hib, hbn, hnb, hin, hnj]
        · simp only [go_sem, fN, seval, eT, iR, hi_ne, lo_ne, hb, hi, hni, n1, n2, n3, n4, n5, n900, n901, hbi, hib, hbn, hnb, hin, hnj, si]
        · simp only [go_sem, fN, seval, eT, iR, hi_ne, lo_ne, j1, j2, j3]
      case pos =>
      by_cases hn : n < 40
      case neg =>
        have hc : constOf nm = -1 := constOf_no fun ⟨_, n', h, _, h'⟩ => hn (by rw [hq2] at h; cases h; exact h')
        rw [hc, if_pos (by decide)] at hqc
        subst hqc
        unfold rest1 at hit
        repeat' (first | (with_reducible first | refine W ?_ | refine Wz0 ?_) | refine Cg _ (hA) ?_ | refine Cg _ (hI) ?_ | ((with_reducible first | refine Wx rfl (fun K hK => ?_) | refine Wp ?_ | refine Wq ?_ | refine Wr ?_); (try simp only [go_sem, fN, seval, eT, iR, hi_ne, lo_ne, hb, hi, hni, n1, n2, n3, n4, n5, n900, n901, hbi, hib, hbn, hnb, hin, hnj, z1', n0, byteN_eq, h99, aNilI, hit, hn, dT, dF, nL]); (repeat with_reducible refine Ai ?_); (try (refine hK _ ?_; clear hK K)); (try with_reducible refine iC ?_)))
        refine IWP.opsPan 1 _ rfl (by kernel_rfl) ?_
        simp only [go_sem, fN, seval, eT, iR, PanAt, List.take_succ_cons, List.take_zero]
        intro envP
        repeat' (with_reducible first | refine Wy ?_ | refine Wz ?_ | refine Wv ?_)
        refine pan_to hbi (hpan (by show ¬ (15 : Int) = 0; decide)) _ (.inl ⟨59, [.st (.str (tailS s (lendA s at_))), .row i ns.length, .st (.int .i64 (200 - k - 1))], ?_⟩) (.inl ⟨ns, ?_, by omega⟩) fun j j1 j2 j3 => ?_
        · simp only [go_sem, fN, seval, eT, iR, hi_ne, lo_ne, hb, hi, hni, n1, n2, n3, n4, n5, n900, n901, hbi, hib, hbn, hnb, hin, hnj]
        · simp only [go_sem, fN, seval, eT, iR, hi_ne, lo_ne, hb, hi, hni, n1, n2, n3, n4, n5, n900, n901, hbi, hib, hbn, hnb, hin, hnj, si]
        · simp only [go_sem, fN, seval, eT, iR, hi_ne, lo_ne, j1, j2, j3]
      case pos =>
      obtain ⟨hc, hn0⟩ := constOf_yes z1 zl h99 hit hn
      rw [hc, if_neg (by omega)] at hqc
      subst hqc
      unfold rest1 at hit
      repeat' (first | (with_reducible first | refine W ?_ | refine Wz0 ?_) | refine Cg _ (hA) ?_ | refine Cg _ (hI) ?_ | refine Cg _ (lC_a n) ?_ | ((with_reducible first | refine Wx rfl (fun K hK => ?_) | refine Wp ?_ | refine Wq ?_ | refine Wr ?_); (try simp only [go_sem, fN, seval, eT, iR, hi_ne, lo_ne, hb, hi, hni, n1, n2, n3, n4, n5, n900, n901, hbi, hib, hbn, hnb, hin, hnj, z1', n0, byteN_eq, h99, aNilI, hit, hn, dT, dF, nL]); (repeat with_reducible refine Ai ?_); (try (refine hK _ ?_; clear hK K)); (try with_reducible refine iC ?_)))
      have hl1 : (200 : Int) - ((k + 1 : Nat) : Int) = 200 - k - 1 := by omega
      have hok' : ∀ x y, Ghost C x y → LEnd (.mk 4 n []) (ldone S b i ni N ns (tailS s (lendA s at_)) (200 - k - 1)) y → Q .ret x := by
        rw [← hl1]
        exact hok rfl
      refine lend_to hok' _ i ns (.row i ns.length) rfl ?_ ?_ ?_ (by omega) (.inr ⟨rfl, rfl⟩) (List.take_length) ?_ hbn hni hb (.inl rfl) fun j j1 j2 j3 => ?_
      · simp only [go_sem, fN, seval, eT, iR, hi_ne, lo_ne, hb, hi, hni, n1, n2, n3, n4, n5, n900, n901, hbi, hib, hbn, hnb, hin, hnj]
      · simp only [go_sem, fN, seval, eT, iR, hi_ne, lo_ne, hb, hi, hni, n1, n2, n3, n4, n5, n900, n901, hbi, hib, hbn, hnb, hin, hnj]
      · simp only [go_sem, fN, seval, eT, iR, hi_ne, lo_ne, hb, hi, hni, n1, n2, n3, n4, n5, n900, n901, hbi, hib, hbn, hnb, hin, hnj, si]
      · simp only [go_sem, fN, seval, eT, iR, hi_ne, lo_ne, hb, hi, hni, n1, n2, n3, n4, n5, n900, n901, hbi, hib, hbn, hnb, hin, hnj, sni]
      · simp only [go_sem, fN, seval, eT, iR, hi_ne, lo_ne, j1, j2, j3]
  · have hqv : q = ⟨.v ((ns.length : Int) - 1 - kk), lendA s at_, k + 1, 0⟩ := by
      rw [← hq]
      unfold lrV
      rw [hbd]
      simp only [if_neg hk2]
    clear hq
    subst hqv
    repeat' (first | (with_reducible first | refine W ?_ | refine Wz0 ?_) | ((with_reducible first | refine Wx rfl (fun K hK => ?_) | refine Wp ?_ | refine Wq ?_ | refine Wr ?_); (try simp only [go_sem, fN, seval, eT, iR, hi_ne, lo_ne, hb, hi, hni, n1, n2, n3, n4, n5, n900, n901, hbi, hib, hbn, hnb, hin, hnj, dT, dF, nL]); (repeat with_reducible refine Ai ?_); (try (refine hK _ ?_; clear hK K)); (try with_reducible refine iC ?_)))
    have hl1 : (200 : Int) - ((k + 1 : Nat) : Int) = 200 - k - 1 := by omega
    have hok' : ∀ x y, Ghost C x y → LEnd (.v ((ns.length : Int) - 1 - kk)) (ldone S b i ni N ns (tailS s (lendA s at_)) (200 - k - 1)) y → Q .ret x := by
      rw [← hl1]
      exact hok rfl
    refine lend_to hok' _ i ns (.row i ns.length) rfl ?_ ?_ ?_ (by omega) (.inr ⟨rfl, rfl⟩) (List.take_length) ?_ hbn hni hb (.inl rfl) fun j j1 j2 j3 => ?_
    · simp only [go_sem, fN, seval, eT, iR, hi_ne, lo_ne, hb, hi, hni, n1, n2, n3, n4, n5, n900, n901, hbi, hib, hbn, hnb, hin, hnj]
      rfl
    · simp only [go_sem, fN, seval, eT, iR, hi_ne, lo_ne, hb, hi, hni, n1, n2, n3, n4, n5, n900, n901, hbi, hib, hbn, hnb, hin, hnj]
    · simp only [go_sem, fN, seval, eT, iR, hi_ne, lo_ne, hb, hi, hni, n1, n2, n3, n4, n5, n900, n901, hbi, hib, hbn, hnb, hin, hnj, si]
    · simp only [go_sem, fN, seval, eT, iR, hi_ne, lo_ne, hb, hi, hni, n1, n2, n3, n4, n5, n900, n901, hbi, hib, hbn, hnb, hin, hnj, sni]
    · simp only [go_sem, fN, seval, eT, iR, hi_ne, lo_ne, j1, j2, j3]

set_option maxRecDepth 100000 in
theorem term_lam {s : ByteArray} (hs : s.size ≤ 100000) {f : Nat} (hT : LT s f) {ns : List ByteArray} {at_ k b i ni N : Nat} {S : AStore} (hat : at_ ≤ s.size) (hk : k ≤ 200) (hf : 3 * (s.size - at_) + 2 < f + 1) (hN : ns.length + (s.size - at_) + 1 < N) (hN2 : N ≤ 1000000) (hb : 1000 ≤ b) (hi : 1000 ≤ i) (hni : 1000 ≤ ni)
    (sb : S b = some (boxL (tailS s at_) (.row i ns.length) (200 - k))) (si : S i = some (rowL ns)) (sni : S ni = none) (h0 : at_ < s.size ∧ byteAt s at_ = 92) {q : LRd} (hq : lrT s (f + 1) ns at_ k = q) : LRS 30 q S (ldone S b i ni N ns (tailS s q.i) (200 - q.k)) (lfail S b i N) b := by
  have hbi : ¬ b = i := fun e => by subst e; rw [sb] at si; cases si
  have hbn : ¬ b = ni := fun e => by subst e; rw [sb] at sni; cases sni
  have hin : ¬ i = ni := fun e => by subst e; rw [si] at sni; cases sni
  have hib : ¬ i = b := fun e => hbi e.symm
  have hnb : ¬ ni = b := fun e => hbn e.symm
  have hnj : ¬ ni = i := fun e => hin e.symm
  have hus := tail_size s at_
  refine lrs_of ok_metaprune_lambda_reader_term (by decide) (clean_ldone hb hi hni) (clean_lfail hb hi) fun hS C Q hC htop hok hpan => ?_
  have n1 : S 1 = none := clean_none hS (by omega)
  have n2 : S 2 = none := clean_none hS (by omega)
  have n3 : S 3 = none := clean_none hS (by omega)
  have n4 : S 4 = none := clean_none hS (by omega)
  have n5 : S 5 = none := clean_none hS (by omega)
  have n900 : S 900 = none := clean_none hS (by omega)
  have n901 : S 901 = none := clean_none hS (by omega)
  have ha := ahead_yes h0
  rw [lrT, if_pos h0] at hq
  obtain ⟨h0, h0'⟩ := h0
  have hdr := tail_drop (s := s) (i := at_) (n := 1) (by omega)
  have h1i : (1 : Int) ≤ (tailS s at_).size := by omega
  unfold ir_metaprune_lambda_reader_term
  repeat' (first | (with_reducible first | refine W ?_ | refine Wz0 ?_) | ((with_reducible first | refine Wx rfl (fun K hK => ?_) | refine Wp ?_ | refine Wq ?_ | refine Wr ?_); (try simp only [go_sem, fN, seval, eT, iR, AS.startS, hi_ne, lo_ne, hb, hi, hni, n1, n2, n3, n4, n5, n900, n901, hbi, hib, hbn, hnb, hin, hnj, dT, dF, nL]); (repeat with_reducible refine Ai ?_); (try (refine hK _ ?_; clear hK K)); (try with_reducible refine iC ?_)))
  refine ⟨_, _, lnext_at (s := s) (at_ := at_) (nm := .row (up1 i) ns.length) (l := 200 - k) (up1_le b) (up_boxL (by simp only [go_sem, fN, seval, eT, iR, hi_ne, lo_ne, hb, hi, hni, n1, n2, n3, n4, n5, n900, n901, hbi, hib, hbn, hnb, hin, hnj, sb])), ?_⟩
  by_cases hk2 : 200 < k + 1
  · rw [if_pos hk2] at hq
    subst hq
    repeat' (first | (with_reducible first | refine W ?_ | refine Wz0 ?_) | (first | refine IWP.opsPan 1 ⟨some 10, none, .callS 42 [.t 9], .no⟩ rfl (by kernel_rfl) ?_) | ((with_reducible first | refine Wx rfl (fun K hK => ?_) | refine Wp ?_ | refine Wq ?_ | refine Wr ?_); (try simp only [go_sem, fN, seval, eT, iR, hi_ne, lo_ne, hb, hi, hni, n1, n2, n3, n4, n5, n900, n901, hbi, hib, hbn, hnb, hin, hnj, ha, sb, dT, dF, nL]); (repeat with_reducible refine Ai ?_); (try (refine hK _ ?_; clear hK K)); (try with_reducible refine iC ?_)))
    simp only [go_sem, fN, seval, eT, iR, PanAt, List.take_succ_cons, List.take_zero, hi_ne, lo_ne, hb, hi, hni, n1, n2, n3, n4, n5, n900, n901, hbi, hib, hbn, hnb, hin, hnj]
    refine ⟨_, _, ltake_P (nm := .row (up1 i) ns.length) (u := tailS s at_) (l := 200 - k) (up1_le b) (high_row (up1_le i)) (up_boxL (by simp only [go_sem, fN, seval, eT, iR, hi_ne, lo_ne, hb, hi, hni, n1, n2, n3, n4, n5, n900, n901, hbi, hib, hbn, hnb, hin, hnj, sb])) (by omega) (by omega), fun envP => ?_⟩
    repeat' (with_reducible first | refine Wy ?_ | refine Wz ?_ | refine Wv ?_)
    refine pan_to hbi (hpan (by show ¬ (3 : Int) = 0; decide)) _ (.inr ?_) (.inl ⟨ns, ?_, by omega⟩) fun j j1 j2 j3 => ?_
    · simp only [go_sem, fN, seval, eT, iR, hi_ne, lo_ne, hb, hi, hni, n1, n2, n3, n4, n5, n900, n901, hbi, hib, hbn, hnb, hin, hnj]
    · simp only [go_sem, fN, seval, eT, iR, hi_ne, lo_ne, hb, hi, hni, n1, n2, n3, n4, n5, n900, n901, hbi, hib, hbn, hnb, hin, hnj, si]
    · simp only [go_sem, fN, seval, eT, iR, hi_ne, lo_ne, j1, j2, j3]
  rw [if_neg hk2] at hq
  repeat' (first | (with_reducible first | refine W ?_ | refine Wz0 ?_) | ((with_reducible first | refine Wx rfl (fun K hK => ?_) | refine Wp ?_ | refine Wq ?_ | refine Wr ?_); (try simp only [go_sem, fN, seval, eT, iR, hi_ne, lo_ne, hb, hi, hni, n1, n2, n3, n4, n5, n900, n901, hbi, hib, hbn, hnb, hin, hnj, ha, sb, dT, dF, nL]); (repeat with_reducible refine Ai ?_); (try (refine hK _ ?_; clear hK K)); (try with_reducible refine iC ?_)))
  refine ⟨_, _, ltake_S (nm := .row (up1 i) ns.length) (u := tailS s at_) (l := 200 - k) (up1_le b) (high_row (up1_le i)) (up_boxL (by simp only [go_sem, fN, seval, eT, iR, hi_ne, lo_ne, hb, hi, hni, n1, n2, n3, n4, n5, n900, n901, hbi, hib, hbn, hnb, hin, hnj, sb])) (by omega) (by omega), ?_⟩
  obtain ⟨m1, m2, m3, m4⟩ := nmErr_ok (s := s) (i := at_ + 1) (by omega)
  by_cases he : nmErr s (at_ + 1) = 0
  case neg =>
    rw [if_neg he] at hq
    subst hq
    repeat' (first | (with_reducible first | refine W ?_ | refine Wz0 ?_) | (first | refine IWP.opsPan 1 ⟨some 20, none, .callS 43 [.t 19], .no⟩ rfl (by kernel_rfl) ?_) | ((with_reducible first | refine Wx rfl (fun K hK => ?_) | refine Wp ?_ | refine Wq ?_ | refine Wr ?_); (try simp only [go_sem, fN, seval, eT, iR, hi_ne, lo_ne, hb, hi, hni, n1, n2, n3, n4, n5, n900, n901, hbi, hib, hbn, hnb, hin, hnj, hdr, h1i, sb, dT, dF, nL]); (repeat with_reducible refine Ai ?_); (try (refine hK _ ?_; clear hK K)); (try with_reducible refine iC ?_)))
    simp only [go_sem, fN, seval, eT, iR, PanAt, List.take_succ_cons, List.take_zero, hi_ne, lo_ne, hb, hi, hni, n1, n2, n3, n4, n5, n900, n901, hbi, hib, hbn, hnb, hin, hnj]
    refine ⟨_, _, lname_pan (nm := .row (up1 i) ns.length) (l := 200 - k - 1) hs (by omega) (up1_le b) (up_boxL (by simp only [go_sem, fN, seval, eT, iR, hi_ne, lo_ne, hb, hi, hni, n1, n2, n3, n4, n5, n900, n901, hbi, hib, hbn, hnb, hin, hnj, sb])) he, fun envP => ?_⟩
    repeat' (with_reducible first | refine Wy ?_ | refine Wz ?_ | refine Wv ?_)
    refine pan_to hbi (hpan he) _ (.inr ?_) (.inl ⟨ns, ?_, by omega⟩) fun j j1 j2 j3 => ?_
    · simp only [go_sem, fN, seval, eT, iR, hi_ne, lo_ne, hb, hi, hni, n1, n2, n3, n4, n5, n900, n901, hbi, hib, hbn, hnb, hin, hnj]
    · simp only [go_sem, fN, seval, eT, iR, hi_ne, lo_ne, hb, hi, hni, n1, n2, n3, n4, n5, n900, n901, hbi, hib, hbn, hnb, hin, hnj, si]
    · simp only [go_sem, fN, seval, eT, iR, hi_ne, lo_ne, j1, j2, j3]
  rw [if_pos he] at hq
  obtain ⟨m5, m6⟩ := m4 he
  repeat' (first | (with_reducible first | refine W ?_ | refine Wz0 ?_) | ((with_reducible first | refine Wx rfl (fun K hK => ?_) | refine Wp ?_ | refine Wq ?_ | refine Wr ?_); (try simp only [go_sem, fN, seval, eT, iR, hi_ne, lo_ne, hb, hi, hni, n1, n2, n3, n4, n5, n900, n901, hbi, hib, hbn, hnb, hin, hnj, hdr, h1i, sb, dT, dF, nL]); (repeat with_reducible refine Ai ?_); (try (refine hK _ ?_; clear hK K)); (try with_reducible refine iC ?_)))
  refine ⟨_, _, lname_at (nm := .row (up1 i) ns.length) (l := 200 - k - 1) hs (by omega) (up1_le b) (high_row (up1_le i)) (up_boxL (by simp only [go_sem, fN, seval, eT, iR, hi_ne, lo_ne, hb, hi, hni, n1, n2, n3, n4, n5, n900, n901, hbi, hib, hbn, hnb, hin, hnj, sb])) he, ?_⟩
  obtain ⟨nm, hnm⟩ : ∃ nm, nmAt s (at_ + 1) = nm := ⟨_, rfl⟩
  rw [hnm] at hq m6 ⊢
  generalize lendA s (at_ + 1) = j1 at *
  by_cases hw : wantE s 46 j1 = 0
  case neg =>
    rw [if_neg hw] at hq
    subst hq
    repeat' (first | (with_reducible first | refine W ?_ | refine Wz0 ?_) | (first | refine IWP.opsPan 1 ⟨some 22, none, .callS 44 [.t 21, .c (.one (.st (.int .u8 46)))], .no⟩ rfl (by kernel_rfl) ?_) | ((with_reducible first | refine Wx rfl (fun K hK => ?_) | refine Wp ?_ | refine Wq ?_ | refine Wr ?_); (try simp only [go_sem, fN, seval, eT, iR, hi_ne, lo_ne, hb, hi, hni, n1, n2, n3, n4, n5, n900, n901, hbi, hib, hbn, hnb, hin, hnj, sb, dT, dF, nL]); (repeat with_reducible refine Ai ?_); (try (refine hK _ ?_; clear hK K)); (try with_reducible refine iC ?_)))
    simp only [go_sem, fN, seval, eT, iR, PanAt, List.take_succ_cons, List.take_zero, hi_ne, lo_ne, hb, hi, hni, n1, n2, n3, n4, n5, n900, n901, hbi, hib, hbn, hnb, hin, hnj]
    refine ⟨_, _, lsign_pan (c := 46) (nm := .row (up1 i) ns.length) (l := 200 - k - 1) m3 (up1_le b) (up_boxL (by simp only [go_sem, fN, seval, eT, iR, hi_ne, lo_ne, hb, hi, hni, n1, n2, n3, n4, n5, n900, n901, hbi, hib, hbn, hnb, hin, hnj])) hw, fun envP => ?_⟩
    repeat' (with_reducible first | refine Wy ?_ | refine Wz ?_ | refine Wv ?_)
    refine pan_to hbi (hpan hw) _ (.inr ?_) (.inl ⟨ns, ?_, by omega⟩) fun j j1 j2 j3 => ?_
    · simp only [go_sem, fN, seval, eT, iR, hi_ne, lo_ne, hb, hi, hni, n1, n2, n3, n4, n5, n900, n901, hbi, hib, hbn, hnb, hin, hnj]
    · simp only [go_sem, fN, seval, eT, iR, hi_ne, lo_ne, hb, hi, hni, n1, n2, n3, n4, n5, n900, n901, hbi, hib, hbn, hnb, hin, hnj, si]
    · simp only [go_sem, fN, seval, eT, iR, hi_ne, lo_ne, j1, j2, j3]
  rw [if_pos hw] at hq
  have w1 := ((wantE_ok m3).2 hw).1
  repeat' (first | (with_reducible first | refine W ?_ | refine Wz0 ?_) | ((with_reducible first | refine Wx rfl (fun K hK => ?_) | refine Wp ?_ | refine Wq ?_ | refine Wr ?_); (try simp only [go_sem, fN, seval, eT, iR, hi_ne, lo_ne, hb, hi, hni, n1, n2, n3, n4, n5, n900, n901, hbi, hib, hbn, hnb, hin, hnj, sb, dT, dF, nL]); (repeat with_reducible refine Ai ?_); (try (refine hK _ ?_; clear hK K)); (try with_reducible refine iC ?_)))
  refine ⟨_, _, lsign_at (c := 46) (nm := .row (up1 i) ns.length) (l := 200 - k - 1) m3 (up1_le b) (high_row (up1_le i)) (up_boxL (by simp only [go_sem, fN, seval, eT, iR, hi_ne, lo_ne, hb, hi, hni, n1, n2, n3, n4, n5, n900, n901, hbi, hib, hbn, hnb, hin, hnj])) hw, ?_⟩
  have hlen : (ns ++ [nm]).length = ns.length + 1 := by simp
  have hmap : (ns ++ [nm]).map encS = ns.map encS ++ [[.str nm]] := by simp [encS]
  have hml : (ns.map encS).length = ns.length := by simp
  have hl1 : (200 : Int) - ((k + 1 : Nat) : Int) = 200 - k - 1 := by omega
  have hc := hT (ns ++ [nm]) (j1 + 1) (k + 1) (up1 b) (up1 i) (up1 900) N
  rw [hlen, hl1] at hc
  by_cases ht : (lrT s f (ns ++ [nm]) (j1 + 1) (k + 1)).e = 0
  case neg =>
    have hqe : q.e = (lrT s f (ns ++ [nm]) (j1 + 1) (k + 1)).e := by rw [← hq]
    rw [hqe] at hpan
    clear hq
    repeat' (first | (with_reducible first | refine W ?_ | refine Wz0 ?_) | (first | refine IWP.opsPan 1 ⟨some 34, none, .callS 30 [.t 33], .no⟩ rfl (by kernel_rfl) ?_) | ((with_reducible first | refine Wx rfl (fun K hK => ?_) | refine Wp ?_ | refine Wq ?_ | refine Wr ?_); (try simp only [go_sem, fN, seval, eT, iR, hi_ne, lo_ne, hb, hi, hni, n1, n2, n3, n4, n5, n900, n901, hbi, hib, hbn, hnb, hin, hnj, sb, si, hml, dT, dF, nL]); (repeat with_reducible refine Ai ?_); (try (refine hK _ ?_; clear hK K)); (try with_reducible refine iC ?_)))
    simp only [go_sem, fN, seval, eT, iR, PanAt, List.take_succ_cons, List.take_zero, hi_ne, lo_ne, hb, hi, hni, n1, n2, n3, n4, n5, n900, n901, hbi, hib, hbn, hnb, hin, hnj]
    refine ⟨_, _, (hc _ (by omega) (by omega) (by omega) (by omega) hN2 (up1_le b) (up1_le i) (up1_le 900) (up_boxL (by simp only [go_sem, fN, seval, eT, iR, hi_ne, lo_ne, hb, hi, hni, n1, n2, n3, n4, n5, n900, n901, hbi, hib, hbn, hnb, hin, hnj, sb])) (up_rowL (by simp only [go_sem, fN, seval, eT, iR, hi_ne, lo_ne, hb, hi, hni, n1, n2, n3, n4, n5, n900, n901, hbi, hib, hbn, hnb, hin, hnj, hmap, rowL])) (up_none (by simp only [go_sem, fN, seval, eT, iR, hi_ne, lo_ne, hb, hi, hni, n1, n2, n3, n4, n5, n900, n901, hbi, hib, hbn, hnb, hin, hnj]))).2 ht, fun envP => ?_⟩
    repeat' (with_reducible first | refine Wy ?_ | refine Wz ?_ | refine Wv ?_)
    refine pan_to hbi (hpan ht) _ (.inr ?_) (.inr ?_) fun j j1 j2 j3 => ?_
    · simp only [go_sem, fN, seval, eT, iR, dn_lfail, lfail, hi_ne, lo_ne, hb, hi, hni, n1, n2, n3, n4, n5, n900, n901, hbi, hib, hbn, hnb, hin, hnj]
    · simp only [go_sem, fN, seval, eT, iR, dn_lfail, lfail, hi_ne, lo_ne, hb, hi, hni, n1, n2, n3, n4, n5, n900, n901, hbi, hib, hbn, hnb, hin, hnj]
    · simp only [go_sem, fN, seval, eT, iR, dn_lfail, lfail, hi_ne, lo_ne, j1, j2, j3]
  repeat' (first | (with_reducible first | refine W ?_ | refine Wz0 ?_) | ((with_reducible first | refine Wx rfl (fun K hK => ?_) | refine Wp ?_ | refine Wq ?_ | refine Wr ?_); (try simp only [go_sem, fN, seval, eT, iR, hi_ne, lo_ne, hb, hi, hni, n1, n2, n3, n4, n5, n900, n901, hbi, hib, hbn, hnb, hin, hnj, sb, si, hml, dT, dF, nL]); (repeat with_reducible refine Ai ?_); (try (refine hK _ ?_; clear hK K)); (try with_reducible refine iC ?_)))
  refine ⟨_, _, (hc _ (by omega) (by omega) (by omega) (by omega) hN2 (up1_le b) (up1_le i) (up1_le 900) (up_boxL (by simp only [go_sem, fN, seval, eT, iR, hi_ne, lo_ne, hb, hi, hni, n1, n2, n3, n4, n5, n900, n901, hbi, hib, hbn, hnb, hin, hnj, sb])) (up_rowL (by simp only [go_sem, fN, seval, eT, iR, hi_ne, lo_ne, hb, hi, hni, n1, n2, n3, n4, n5, n900, n901, hbi, hib, hbn, hnb, hin, hnj, hmap, rowL])) (up_none (by simp only [go_sem, fN, seval, eT, iR, hi_ne, lo_ne, hb, hi, hni, n1, n2, n3, n4, n5, n900, n901, hbi, hib, hbn, hnb, hin, hnj]))).1 ht, ?_⟩
  generalize lrT s f (ns ++ [nm]) (j1 + 1) (k + 1) = p at *
  subst hq
  have hl2 : ((ns ++ [nm]).map encS).length = ns.length + 1 := by simp
  have hl3 : (((ns.length + 1 : Nat) : Int) - 1).toNat = ns.length := by omega
  repeat' (first | (with_reducible first | refine W ?_ | refine Wz0 ?_) | refine Cg _ (lL_a p.t) ?_ | ((with_reducible first | refine Wx rfl (fun K hK => ?_) | refine Wp ?_ | refine Wq ?_ | refine Wr ?_); (try simp only [go_sem, fN, seval, eT, iR, dn_ldone, ldone, hi_ne, lo_ne, hb, hi, hni, n1, n2, n3, n4, n5, n900, n901, hbi, hib, hbn, hnb, hin, hnj, hlen, hl2, hl3, dT, dF, nL]); (repeat with_reducible refine Ai ?_); (try (refine hK _ ?_; clear hK K)); (try with_reducible refine iC ?_)))
  refine lend_to (hok ht) _ 900 (ns ++ [nm]) (.part 900 ns.length (ns ++ [nm]).length) rfl ?_ ?_ ?_ (by omega) (.inl rfl) (by simp) ?_ hbn hni hb (.inr ⟨by decide, ?_, hin, hib⟩) fun j j1 j2 j3 => ?_
  · simp only [go_sem, fN, seval, eT, iR, hi_ne, lo_ne, hb, hi, hni, n1, n2, n3, n4, n5, n900, n901, hbi, hib, hbn, hnb, hin, hnj]
  · simp only [go_sem, fN, seval, eT, iR, hi_ne, lo_ne, hb, hi, hni, n1, n2, n3, n4, n5, n900, n901, hbi, hib, hbn, hnb, hin, hnj, hlen]
  · simp only [go_sem, fN, seval, eT, iR, hi_ne, lo_ne, hb, hi, hni, n1, n2, n3, n4, n5, n900, n901, hbi, hib, hbn, hnb, hin, hnj]
  · simp only [go_sem, fN, seval, eT, iR, hi_ne, lo_ne, hb, hi, hni, n1, n2, n3, n4, n5, n900, n901, hbi, hib, hbn, hnb, hin, hnj, sni]
  · simp only [go_sem, fN, seval, eT, iR, hi_ne, lo_ne, hb, hi, hni, n1, n2, n3, n4, n5, n900, n901, hbi, hib, hbn, hnb, hin, hnj]
  · simp only [go_sem, fN, seval, eT, iR, hi_ne, lo_ne, j1, j2, j3]

set_option maxRecDepth 100000 in
theorem term_app {s : ByteArray} (hs : s.size ≤ 100000) {f : Nat} (hP : ∀ g, g ≤ f → LPc s g) {ns : List ByteArray} {at_ k b i ni N : Nat} {S : AStore} (hat : at_ ≤ s.size) (hk : k ≤ 200) (hf : 3 * (s.size - at_) + 2 < f + 1) (hN : ns.length + (s.size - at_) + 1 < N) (hN2 : N ≤ 1000000) (hb : 1000 ≤ b) (hi : 1000 ≤ i) (hni : 1000 ≤ ni)
    (sb : S b = some (boxL (tailS s at_) (.row i ns.length) (200 - k))) (si : S i = some (rowL ns)) (sni : S ni = none) (h0 : ¬ (at_ < s.size ∧ byteAt s at_ = 92)) {q : LRd} (hq : lrT s (f + 1) ns at_ k = q) : LRS 30 q S (ldone S b i ni N ns (tailS s q.i) (200 - q.k)) (lfail S b i N) b := by
  have hbi : ¬ b = i := fun e => by subst e; rw [sb] at si; cases si
  have hbn : ¬ b = ni := fun e => by subst e; rw [sb] at sni; cases sni
  have hin : ¬ i = ni := fun e => by subst e; rw [si] at sni; cases sni
  have hib : ¬ i = b := fun e => hbi e.symm
  have hnb : ¬ ni = b := fun e => hbn e.symm
  have hnj : ¬ ni = i := fun e => hin e.symm
  refine lrs_of ok_metaprune_lambda_reader_term (by decide) (clean_ldone hb hi hni) (clean_lfail hb hi) fun hS C Q hC htop hok hpan => ?_
  have n1 : S 1 = none := clean_none hS (by omega)
  have n2 : S 2 = none := clean_none hS (by omega)
  have n3 : S 3 = none := clean_none hS (by omega)
  have n4 : S 4 = none := clean_none hS (by omega)
  have n5 : S 5 = none := clean_none hS (by omega)
  have n900 : S 900 = none := clean_none hS (by omega)
  have n901 : S 901 = none := clean_none hS (by omega)
  have ha := ahead_no (c := 92) (by decide) h0
  rw [lrT, if_neg h0] at hq
  unfold ir_metaprune_lambda_reader_term
  repeat' (first | (with_reducible first | refine W ?_ | refine Wz0 ?_) | ((with_reducible first | refine Wx rfl (fun K hK => ?_) | refine Wp ?_ | refine Wq ?_ | refine Wr ?_); (try simp only [go_sem, fN, seval, eT, iR, AS.startS, hi_ne, lo_ne, hb, hi, hni, n1, n2, n3, n4, n5, n900, n901, hbi, hib, hbn, hnb, hin, hnj, dT, dF, nL]); (repeat with_reducible refine Ai ?_); (try (refine hK _ ?_; clear hK K)); (try with_reducible refine iC ?_)))
  refine ⟨_, _, lnext_at (s := s) (at_ := at_) (nm := .row (up1 i) ns.length) (l := 200 - k) (up1_le b) (up_boxL (by simp only [go_sem, fN, seval, eT, iR, hi_ne, lo_ne, hb, hi, hni, n1, n2, n3, n4, n5, n900, n901, hbi, hib, hbn, hnb, hin, hnj, sb])), ?_⟩
  have hpo := lrP_ok s f ns at_ k hat hk (by omega)
  have hc := hP f (Nat.le_refl _) ns at_ k (up1 b) (up1 i) (up1 (300 + (lrP s f ns at_ k).k)) N
  by_cases he : (lrP s f ns at_ k).e = 0
  case neg =>
    have hq' : q = lrP s f ns at_ k := by rw [← hq]; exact lrL_bad (by omega) fun h => he h.1
    subst hq'
    repeat' (first | (with_reducible first | refine W ?_ | refine Wz0 ?_) | (first | refine IWP.opsPan 1 ⟨some 52, none, .callS 46 [.t 51], .no⟩ rfl (by kernel_rfl) ?_) | ((with_reducible first | refine Wx rfl (fun K hK => ?_) | refine Wp ?_ | refine Wq ?_ | refine Wr ?_); (try simp only [go_sem, fN, seval, eT, iR, hi_ne, lo_ne, hb, hi, hni, n1, n2, n3, n4, n5, n900, n901, hbi, hib, hbn, hnb, hin, hnj, ha, sb, dT, dF, nL]); (repeat with_reducible refine Ai ?_); (try (refine hK _ ?_; clear hK K)); (try with_reducible refine iC ?_)))
    simp only [go_sem, fN, seval, eT, iR, PanAt, List.take_succ_cons, List.take_zero, hi_ne, lo_ne, hb, hi, hni, n1, n2, n3, n4, n5, n900, n901, hbi, hib, hbn, hnb, hin, hnj]
    have hm := hpo.most
    have hc2 := hP f (Nat.le_refl _) ns at_ k (up1 b) (up1 i) (up1 900) N
    refine ⟨_, _, (hc2 _ hat hk (by omega) (by omega) hN2 (up1_le b) (up1_le i) (up1_le _) (up_boxL (by simp only [go_sem, fN, seval, eT, iR, hi_ne, lo_ne, hb, hi, hni, n1, n2, n3, n4, n5, n900, n901, hbi, hib, hbn, hnb, hin, hnj, sb])) (up_rowL (by simp only [go_sem, fN, seval, eT, iR, hi_ne, lo_ne, hb, hi, hni, n1, n2, n3, n4, n5, n900, n901, hbi, hib, hbn, hnb, hin, hnj, si])) (up_none (by simp only [go_sem, fN, seval, eT, iR, hi_ne, lo_ne, hb, hi, hni, n1, n2, n3, n4, n5, n900, n901, hbi, hib, hbn, hnb, hin, hnj]))).2 he, fun envP => ?_⟩
    repeat' (with_reducible first | refine Wy ?_ | refine Wz ?_ | refine Wv ?_)
    refine pan_to hbi (hpan he) _ (.inr ?_) (.inr ?_) fun j j1 j2 j3 => ?_
    · simp only [go_sem, fN, seval, eT, iR, dn_lfail, lfail, hi_ne, lo_ne, hb, hi, hni, n1, n2, n3, n4, n5, n900, n901, hbi, hib, hbn, hnb, hin, hnj]
    · simp only [go_sem, fN, seval, eT, iR, dn_lfail, lfail, hi_ne, lo_ne, hb, hi, hni, n1, n2, n3, n4, n5, n900, n901, hbi, hib, hbn, hnb, hin, hnj]
    · simp only [go_sem, fN, seval, eT, iR, dn_lfail, lfail, hi_ne, lo_ne, j1, j2, j3]
  obtain ⟨o1, o2, o3, o4⟩ := hpo.ok he
  obtain ⟨p, hp⟩ : ∃ p, lrP s f ns at_ k = p := ⟨_, rfl⟩
  rw [hp] at hc hq he o1 o2 o3 o4
  have hlow : ∀ j, j ≤ 201 → S (300 + j) = none := fun j hj => clean_none hS (by omega)
  have l1 : 300 + p.k < 1000 := by omega
  have l2 : ¬ 300 + p.k = 2 := by omega
  have l5 : ¬ 300 + p.k = 5 := by omega
  have k2 : ¬ 2 = 300 + p.k := by omega
  have k5 : ¬ 5 = 300 + p.k := by omega
  have hpn : S (300 + p.k) = none := hlow p.k (by omega)
  repeat' (first | (with_reducible first | refine W ?_ | refine Wz0 ?_) | ((with_reducible first | refine Wx rfl (fun K hK => ?_) | refine Wp ?_ | refine Wq ?_ | refine Wr ?_); (try simp only [go_sem, fN, seval, eT, iR, hi_ne, lo_ne, hb, hi, hni, n1, n2, n3, n4, n5, n900, n901, hbi, hib, hbn, hnb, hin, hnj, ha, sb, dT, dF, nL]); (repeat with_reducible refine Ai ?_); (try (refine hK _ ?_; clear hK K)); (try with_reducible refine iC ?_)))
  refine ⟨_, _, (hc _ hat hk (by omega) (by omega) hN2 (up1_le b) (up1_le i) (up1_le _) (up_boxL (by simp only [go_sem, fN, seval, eT, iR, hi_ne, lo_ne, hb, hi, hni, n1, n2, n3, n4, n5, n900, n901, hbi, hib, hbn, hnb, hin, hnj, sb])) (up_rowL (by simp only [go_sem, fN, seval, eT, iR, hi_ne, lo_ne, hb, hi, hni, n1, n2, n3, n4, n5, n900, n901, hbi, hib, hbn, hnb, hin, hnj, si])) (up_none (by simp only [go_sem, fN, seval, eT, iR, hi_ne, lo_ne, hb, hi, hni, n1, n2, n3, n4, n5, n900, n901, hbi, hib, hbn, hnb, hin, hnj, l1, l2, l5, hpn]))).1 he, ?_⟩
  repeat' (first | (with_reducible first | refine W ?_ | refine Wz0 ?_) | ((with_reducible first | refine Wx rfl (fun K hK => ?_) | refine Wp ?_ | refine Wq ?_ | refine Wr ?_); (try simp only [go_sem, fN, seval, eT, iR, dn_ldone, ldone, hi_ne, lo_ne, hb, hi, hni, n1, n2, n3, n4, n5, n900, n901, hbi, hib, hbn, hnb, hin, hnj, l1, l2, l5, k2, k5, sb, dT, dF, nL]); (repeat with_reducible refine Ai ?_); (try (refine hK _ ?_; clear hK K)); (try with_reducible refine iC ?_)))
  refine IWP.loop (fun m x => ∃ (p : LRd) (g : Nat), lrL s g ns p = q ∧ m = s.size - p.i ∧ p.e = 0 ∧ p.i ≤ s.size ∧ p.k ≤ 200 ∧ at_ < p.i ∧ 3 * (s.size - p.i) < g ∧ g ≤ f ∧ x.env 0 = .one (.ptr b 1 0 0) ∧ x.env 2 = .one (.ptr 2 1 0 0) ∧ x.env 5 = .one (.ptr 5 1 0 0) ∧ x.S 2 = some (.box 25 [.st (.int .i64 0), .st (.int .i64 0), .full []]) ∧ x.S 5 = some (.box 25 [.st (.int .i64 p.t.kind), .st (.int .i64 p.t.idx), .st (.list (p.t.subs.map encL))]) ∧
    x.S b = some (boxL (tailS s p.i) (.row (300 + p.k) ns.length) (200 - p.k)) ∧ x.S (300 + p.k) = some (rowL ns) ∧ x.S i = some (.dead N 1) ∧ (∀ j, p.k < j → j ≤ 201 → x.S (300 + j) = none) ∧ ∀ j, 1000 ≤ j → j ≠ b → j ≠ i → x.S j = S j) (s.size - p.i) ⟨p, f, hq, rfl, he, o1, o4, o2, by omega, Nat.le_refl _, ?_⟩ ?_
  · simp only [go_sem, fN, seval, eT, iR, hi_ne, lo_ne, hb, hi, hni, n1, n2, n3, n4, n5, n900, n901, hbi, hib, hbn, hnb, hin, hnj, l1, l2, l5, k2, k5, AS.startS]
    refine ⟨fun j j1 j2 => ?_, fun j j1 j2 j3 => ?_⟩
    · have h1 : ¬ 300 + j = 5 := by omega
      have h2 : ¬ 300 + j = 2 := by omega
      have h3 : ¬ 300 + j = 300 + p.k := by omega
      have h4 : ¬ 300 + j = b := by omega
      have h5 : ¬ 300 + j = i := by omega
      have h6 := hlow j j2
      simp only [go_sem, fN, seval, eT, iR, h1, h2, h3, h4, h5, h6]
    · have h3 : ¬ j = 300 + p.k := by omega
      simp only [go_sem, fN, seval, eT, iR, hi_ne, lo_ne, j1, j2, j3, h3]
  clear hc hp hlow l1 l2 l5 k2 k5 hpn he o1 o2 o3 o4 hq hpo
  clear p
  rintro m ⟨env, S1⟩ ⟨p, g, hq, rfl, he, o1, o4, o2, hg, hgf, v0, v2, v5, t2, t5, tb, tk, ti, tn, hrest⟩
  simp only at v0 v2 v5 t2 t5 tb tk ti tn hrest
  have l1 : 300 + p.k < 1000 := by omega
  have l2 : ¬ 300 + p.k = 2 := by omega
  have l5 : ¬ 300 + p.k = 5 := by omega
  have k2 : ¬ 2 = 300 + p.k := by omega
  have k5 : ¬ 5 = 300 + p.k := by omega
  have kb : ¬ b = 300 + p.k := by omega
  have ki : ¬ i = 300 + p.k := by omega
  have lb : ¬ 300 + p.k = b := by omega
  have li : ¬ 300 + p.k = i := by omega
  obtain ⟨g, rfl⟩ : ∃ g', g = g' + 1 := ⟨g - 1, by omega⟩
  have tni : S1 ni = none := by rw [hrest ni hni (by omega) (by omega)]; exact sni
  repeat' (first | (with_reducible first | refine W ?_ | refine Wz0 ?_) | ((with_reducible first | refine Wx rfl (fun K hK => ?_) | refine Wp ?_ | refine Wq ?_ | refine Wr ?_); (try simp only [go_sem, fN, seval, eT, iR, v0, hi_ne, lo_ne, hb, hi, hni, n1, n2, n3, n4, n5, n900, n901, hbi, hib, hbn, hnb, hin, hnj, dT, dF, nL]); (repeat with_reducible refine Ai ?_); (try (refine hK _ ?_; clear hK K)); (try with_reducible refine iC ?_)))
  refine ⟨_, _, lnext_at (s := s) (at_ := p.i) (nm := .row (up1 (300 + p.k)) ns.length) (l := 200 - p.k) (up1_le b) (up_boxL (by simp only [go_sem, fN, seval, eT, iR, hi_ne, lo_ne, hb, hi, hni, n1, n2, n3, n4, n5, n900, n901, hbi, hib, hbn, hnb, hin, hnj, tb])), ?_⟩
  by_cases h1 : p.i < s.size ∧ byteAt s p.i = 32
  case neg =>
    have ha1 := ahead_no (c := 32) (by decide) h1
    have hq' : p = q := by rw [← hq]; exact (lrL_bad (Nat.succ_pos _) fun h => h1 h.2).symm
    subst hq'
    repeat' (first | (with_reducible first | refine W ?_ | refine Wz0 ?_) | ((with_reducible first | refine Wx rfl (fun K hK => ?_) | refine Wp ?_ | refine Wq ?_ | refine Wr ?_); (try simp only [go_sem, fN, seval, eT, iR, v0, v2, v5, hi_ne, lo_ne, hb, hi, hni, n1, n2, n3, n4, n5, n900, n901, hbi, hib, hbn, hnb, hin, hnj, ha1, tb, t2, t5, dT, dF, nL]); (repeat with_reducible refine Ai ?_); (try (refine hK _ ?_; clear hK K)); (try with_reducible refine iC ?_)))
    refine lend_to (hok he) _ (300 + p.k) ns (.row (300 + p.k) ns.length) ?_ ?_ ?_ ?_ (by omega) (.inr ⟨rfl, rfl⟩) (List.take_length) ?_ hbn hni hb (.inr ⟨l1, ?_, hin, hib⟩) fun j j1 j2 j3 => ?_
    · simp only [go_sem, fN, seval, eT, iR, v2]
    · simp only [go_sem, fN, seval, eT, iR, hi_ne, lo_ne, hb, hi, hni, n1, n2, n3, n4, n5, n900, n901, hbi, hib, hbn, hnb, hin, hnj]
    · simp only [go_sem, fN, seval, eT, iR, hi_ne, lo_ne, hb, hi, hni, n1, n2, n3, n4, n5, n900, n901, hbi, hib, hbn, hnb, hin, hnj, tb]
    · simp only [go_sem, fN, seval, eT, iR, l2, tk]
    · simp only [go_sem, fN, seval, eT, iR, hi_ne, lo_ne, hb, hi, hni, n1, n2, n3, n4, n5, n900, n901, hbi, hib, hbn, hnb, hin, hnj, tni]
    · simp only [go_sem, fN, seval, eT, iR, hi_ne, lo_ne, hb, hi, hni, n1, n2, n3, n4, n5, n900, n901, hbi, hib, hbn, hnb, hin, hnj, ti]
    · have j4 : ¬ j = 2 := by omega
      simp only [go_sem, fN, seval, eT, iR, j4]
      exact hrest j j1 j2 j3
  case pos =>
  have ha1 := ahead_yes h1
  have hus1 := tail_size s p.i
  have hdr := tail_drop (s := s) (i := p.i) (n := 1) (by omega)
  have h1i : (1 : Int) ≤ (tailS s p.i).size := by omega
  rw [lrL, if_pos ⟨he, h1⟩] at hq
  by_cases hk2 : 200 < p.k + 1
  · rw [if_pos hk2] at hq
    subst hq
    repeat' (first | (with_reducible first | refine W ?_ | refine Wz0 ?_) | (first | refine IWP.opsPan 1 ⟨some 65, none, .callS 42 [.t 64], .no⟩ rfl (by kernel_rfl) ?_) | ((with_reducible first | refine Wx rfl (fun K hK => ?_) | refine Wp ?_ | refine Wq ?_ | refine Wr ?_); (try simp only [go_sem, fN, seval, eT, iR, v0, v2, v5, hi_ne, lo_ne, hb, hi, hni, n1, n2, n3, n4, n5, n900, n901, hbi, hib, hbn, hnb, hin, hnj, ha1, hdr, h1i, tb, t2, t5, dT, dF, nL]); (repeat with_reducible refine Ai ?_); (try (refine hK _ ?_; clear hK K)); (try with_reducible refine iC ?_)))
    simp only [go_sem, fN, seval, eT, iR, PanAt, List.take_succ_cons, List.take_zero, v0, hi_ne, lo_ne, hb, hi, hni, n1, n2, n3, n4, n5, n900, n901, hbi, hib, hbn, hnb, hin, hnj]
    refine ⟨_, _, ltake_P (nm := .row (up1 (300 + p.k)) ns.length) (u := tailS s (p.i + 1)) (l := 200 - p.k) (up1_le b) (high_row (up1_le _)) (up_boxL (by simp only [go_sem, fN, seval, eT, iR, hi_ne, lo_ne, hb, hi, hni, n1, n2, n3, n4, n5, n900, n901, hbi, hib, hbn, hnb, hin, hnj, tb])) (by omega) (by omega), fun envP => ?_⟩
    repeat' (with_reducible first | refine Wy ?_ | refine Wz ?_ | refine Wv ?_)
    refine pan_to hbi (hpan (by show ¬ (3 : Int) = 0; decide)) _ (.inr ?_) (.inr ?_) fun j j1 j2 j3 => ?_
    · simp only [go_sem, fN, seval, eT, iR, hi_ne, lo_ne, hb, hi, hni, n1, n2, n3, n4, n5, n900, n901, hbi, hib, hbn, hnb, hin, hnj]
    · simp only [go_sem, fN, seval, eT, iR, hi_ne, lo_ne, hb, hi, hni, n1, n2, n3, n4, n5, n900, n901, hbi, hib, hbn, hnb, hin, hnj, ti]
    · simp only [go_sem, fN, seval, eT, iR, hi_ne, lo_ne, hb, hi, hni, n1, n2, n3, n4, n5, n900, n901, hbi, hib, hbn, hnb, hin, hnj, j2]
      exact hrest j j1 j2 j3
  rw [if_neg hk2] at hq
  repeat' (first | (with_reducible first | refine W ?_ | refine Wz0 ?_) | ((with_reducible first | refine Wx rfl (fun K hK => ?_) | refine Wp ?_ | refine Wq ?_ | refine Wr ?_); (try simp only [go_sem, fN, seval, eT, iR, v0, v2, v5, hi_ne, lo_ne, hb, hi, hni, n1, n2, n3, n4, n5, n900, n901, hbi, hib, hbn, hnb, hin, hnj, ha1, hdr, h1i, tb, t2, t5, dT, dF, nL]); (repeat with_reducible refine Ai ?_); (try (refine hK _ ?_; clear hK K)); (try with_reducible refine iC ?_)))
  refine ⟨_, _, ltake_S (nm := .row (up1 (300 + p.k)) ns.length) (u := tailS s (p.i + 1)) (l := 200 - p.k) (up1_le b) (high_row (up1_le _)) (up_boxL (by simp only [go_sem, fN, seval, eT, iR, hi_ne, lo_ne, hb, hi, hni, n1, n2, n3, n4, n5, n900, n901, hbi, hib, hbn, hnb, hin, hnj, tb])) (by omega) (by omega), ?_⟩
  have hc := hP g (by omega) ns (p.i + 1) (p.k + 1) (up1 b) (up1 (300 + p.k))
  have hpo := lrP_ok s g ns (p.i + 1) (p.k + 1) (by omega) (by omega) (by omega)
  have hl1 : (200 : Int) - ((p.k + 1 : Nat) : Int) = 200 - p.k - 1 := by omega
  rw [hl1] at hc
  by_cases hr : (lrP s g ns (p.i + 1) (p.k + 1)).e = 0
  case neg =>
    have hq' := (lrL_bad (s := s) (g := g) (ns := ns) (q := ⟨.a p.t (lrP s g ns (p.i + 1) (p.k + 1)).t, (lrP s g ns (p.i + 1) (p.k + 1)).i, (lrP s g ns (p.i + 1) (p.k + 1)).k, (lrP s g ns (p.i + 1) (p.k + 1)).e⟩) (by omega) fun h => hr h.1).symm.trans hq
    subst hq'
    repeat' (first | (with_reducible first | refine W ?_ | refine Wz0 ?_) | (first | refine IWP.opsPan 2 ⟨some 68, none, .callS 46 [.t 67], .keeps [5]⟩ rfl (by kernel_rfl) ?_) | ((with_reducible first | refine Wx rfl (fun K hK => ?_) | refine Wp ?_ | refine Wq ?_ | refine Wr ?_); (try simp only [go_sem, fN, seval, eT, iR, v0, v2, v5, hi_ne, lo_ne, hb, hi, hni, n1, n2, n3, n4, n5, n900, n901, hbi, hib, hbn, hnb, hin, hnj, tb, t2, t5, dT, dF, nL]); (repeat with_reducible refine Ai ?_); (try (refine hK _ ?_; clear hK K)); (try with_reducible refine iC ?_)))
    simp only [go_sem, fN, seval, eT, iR, PanAt, List.take_succ_cons, List.take_zero, v0, v5, t5, hi_ne, lo_ne, hb, hi, hni, n1, n2, n3, n4, n5, n900, n901, hbi, hib, hbn, hnb, hin, hnj]
    have tn' := tn (p.k + 1) (by omega) (by omega)
    have kb' : ¬ 300 + (p.k + 1) = b := by omega
    refine ⟨_, _, (hc (up1 (300 + (p.k + 1))) N _ (by omega) (by omega) (by omega) (by omega) hN2 (up1_le b) (up1_le _) (up1_le _) (up_boxL (by simp only [go_sem, fN, seval, eT, iR, hi_ne, lo_ne, hb, hi, hni, n1, n2, n3, n4, n5, n900, n901, hbi, hib, hbn, hnb, hin, hnj, tb])) (up_rowL (by simp only [go_sem, fN, seval, eT, iR, lb, tk])) (up_none (by simp only [go_sem, fN, seval, eT, iR, kb', tn']))).2 hr, fun envP => ?_⟩
    repeat' (with_reducible first | refine Wy ?_ | refine Wz ?_ | refine Wv ?_)
    refine pan_to hbi (hpan hr) _ (.inr ?_) (.inr ?_) fun j j1 j2 j3 => ?_
    · simp only [go_sem, fN, seval, eT, iR, dn_lfail, lfail, hi_ne, lo_ne, hb, hi, hni, n1, n2, n3, n4, n5, n900, n901, hbi, hib, hbn, hnb, hin, hnj]
    · simp only [go_sem, fN, seval, eT, iR, dn_lfail, lfail, hi_ne, lo_ne, hb, hi, hni, n1, n2, n3, n4, n5, n900, n901, hbi, hib, hbn, hnb, hin, hnj, li, ki, ti]
    · have j4 : ¬ j = 300 + p.k := by omega
      simp only [go_sem, fN, seval, eT, iR, dn_lfail, lfail, hi_ne, lo_ne, j1, j2, j3, j4]
      exact hrest j j1 j2 j3
  obtain ⟨p1, hp1⟩ : ∃ p1, lrP s g ns (p.i + 1) (p.k + 1) = p1 := ⟨_, rfl⟩
  have hc := hc (up1 (300 + p1.k)) N
  rw [hp1] at hq hc hpo hr
  obtain ⟨r1, r2, r3, r4⟩ := hpo.ok hr
  have l1' : 300 + p1.k < 1000 := by omega
  have l2' : ¬ 300 + p1.k = 2 := by omega
  have l5' : ¬ 300 + p1.k = 5 := by omega
  have k2' : ¬ 2 = 300 + p1.k := by omega
  have k5' : ¬ 5 = 300 + p1.k := by omega
  have lb' : ¬ 300 + p1.k = b := by omega
  have li' : ¬ 300 + p1.k = i := by omega
  have kb' : ¬ b = 300 + p1.k := by omega
  have ki' : ¬ i = 300 + p1.k := by omega
  have ll' : ¬ 300 + p1.k = 300 + p.k := by omega
  have tn' := tn p1.k (by omega) (by omega)
  repeat' (first | (with_reducible first | refine W ?_ | refine Wz0 ?_) | ((with_reducible first | refine Wx rfl (fun K hK => ?_) | refine Wp ?_ | refine Wq ?_ | refine Wr ?_); (try simp only [go_sem, fN, seval, eT, iR, v0, v2, v5, hi_ne, lo_ne, hb, hi, hni, n1, n2, n3, n4, n5, n900, n901, hbi, hib, hbn, hnb, hin, hnj, tb, t2, t5, dT, dF, nL]); (repeat with_reducible refine Ai ?_); (try (refine hK _ ?_; clear hK K)); (try with_reducible refine iC ?_)))
  refine ⟨_, _, (hc _ (by omega) (by omega) (by omega) (by omega) hN2 (up1_le b) (up1_le _) (up1_le _) (up_boxL (by simp only [go_sem, fN, seval, eT, iR, hi_ne, lo_ne, hb, hi, hni, n1, n2, n3, n4, n5, n900, n901, hbi, hib, hbn, hnb, hin, hnj, tb])) (up_rowL (by simp only [go_sem, fN, seval, eT, iR, lb, tk])) (up_none (by simp only [go_sem, fN, seval, eT, iR, lb', tn']))).1 hr, ?_⟩
  repeat' (first | (with_reducible first | refine W ?_ | refine Wz0 ?_) | refine Cg _ (lA_a p.t p1.t) ?_ | ((with_reducible first | refine Wx rfl (fun K hK => ?_) | refine Wp ?_ | refine Wq ?_ | refine Wr ?_); (try simp only [go_sem, fN, seval, eT, iR, dn_ldone, ldone, v0, v2, v5, hi_ne, lo_ne, hb, hi, hni, n1, n2, n3, n4, n5, n900, n901, hbi, hib, hbn, hnb, hin, hnj, k5, k5', l5, l5', tb, t2, t5, List.forall_mem_singleton, dT, dF, nL]); (repeat with_reducible refine Ai ?_); (try (refine hK _ ?_; clear hK K)); (try with_reducible refine iC ?_)))
  refine then_normal ⟨s.size - p1.i, by omega, ⟨.a p.t p1.t, p1.i, p1.k, p1.e⟩, g, hq, rfl, hr, r1, r4, by show at_ < p1.i; omega, by show 3 * (s.size - p1.i) < g; omega, by omega, ?_⟩
  dsimp only
  simp only [go_sem, fN, seval, eT, iR, v0, v2, v5, hi_ne, lo_ne, hb, hi, hni, n1, n2, n3, n4, n5, n900, n901, hbi, hib, hbn, hnb, hin, hnj, k2, k2', k5, k5', l2, l2', l5, l5', lb, lb', li, li', kb', ki', t2, ll', ki, ti]
  refine ⟨fun j j1 j2 => ?_, fun j j1 j2 j3 => ?_⟩
  · have h1 : ¬ 300 + j = 5 := by omega
    have h3 : ¬ 300 + j = 300 + p.k := by omega
    have h3' : ¬ 300 + j = 300 + p1.k := by omega
    have h4 : ¬ 300 + j = b := by omega
    have h6 := tn j (by omega) j2
    simp only [go_sem, fN, seval, eT, iR, h1, h3, h3', h4, h6]
  · have h3 : ¬ j = 300 + p.k := by omega
    have h3' : ¬ j = 300 + p1.k := by omega
    simp only [go_sem, fN, seval, eT, iR, hi_ne, lo_ne, j1, j2, j3, h3, h3']
    exact hrest j j1 j2 j3
theorem lread_S {s : ByteArray} (hs : s.size ≤ 100000) : ∀ f, LT s f ∧ LPc s f := by
  intro f
  induction f using Nat.strongRecOn with
  | _ f ih =>
  cases f with
  | zero => exact ⟨fun _ _ _ _ _ _ _ _ _ _ h => absurd h (Nat.not_lt_zero _), fun _ _ _ _ _ _ _ _ _ _ h => absurd h (Nat.not_lt_zero _)⟩
  | succ f =>
    have hT := (ih f (Nat.lt_succ_self f)).1
    refine ⟨fun ns at_ k b i ni N S hat hk hf hN hN2 hb hi hni sb si sni => ?_, piece_S hs hT⟩
    by_cases h0 : at_ < s.size ∧ byteAt s at_ = 92
    · exact term_lam hs hT hat hk hf hN hN2 hb hi hni sb si sni h0 rfl
    · exact term_app hs (fun g hg => (ih g (by omega)).2) hat hk hf hN hN2 hb hi hni sb si sni h0 rfl

def ir_slices_Clone_string_string : IR :=
  (.seq (.ops [.i 2 (.mov (.c (.one (.full []))))]) (.seq (.seq (.ops [.m 3 0, .i 4 (.eqN false (.t 3))]) (.cond (.t 4) (.seq (.ops [.i 2 (.mov (.c (.one (.full []))))]) .ret) .skip)) (.seq (.ops [.i 5 (.buildFlat []), .m 6 0, .i 7 (.append true 9 1 16 (.t 5) (.t 6)), .m 2 7]) .ret)))
theorem ok_slices_Clone_string_string : OkF Tryd.prog 29 8 [7] ir_slices_Clone_string_string [.t 2] := .of Tryd.func29 rfl rfl (by kernel_rfl) rfl



section
variable {s : ByteArray} {i k b : Nat} {e : Int} {S : AStore}
end

abbrev boxT0l : ABlk := .box 25 [.st (.int .i64 0), .st (.int .i64 0), .full []]

def ir_lambda_Names : IR :=
  (.seq (.ops [.i 2 (.mov (.n 0))]) (.seq (.seq (.ops [.m 5 0, .i 6 (.len false (.t 5)), .i 7 (.bin .gtr (.t 6) (.n 40))]) (.cond (.t 7) (.seq (.ops [.i 2 (.mov (.n 3))]) .ret) .skip)) (.seq (.seq (.ops [.m 8 0, .i 9 (.len false (.t 8)), .i 10 (.mov (.n 0))]) (.block 0 (.loop (.seq (.ops [.i 11 (.bin .lss (.t 10) (.t 9))]) (.seq (.cond (.t 11) .skip (.exit 0)) (.seq (.block 1 (.seq (.ops [.m 12 10, .i 13 (.indexAddr 1 (.t 8) (.t 10)), .l 14 13, .m 3 12, .m 4 14]) (.seq (.seq (.ops [.m 15 4, .i 16 (.call 39 [.t 15]), .i 17 (.un .not (.t 16)), .m 18 17, .mk (some 19) (some (18, false)) (.mov (.t 4)) .no, .mk (some 20) (some (18, false)) (.indexStr (.t 19) (.n 0)) .no, .mk (some 21) (some (18, false)) (.bin .eql (.t 20) (.c (.one (.st (.int .u8 120))))) .no, .i 22 (.pick (.t 18) (.c (.one (.st (.bool true)))) (.t 21)), .m 23 22, .mk (some 24) (some (23, false)) (.mov (.t 4)) .no, .mk (some 25) (some (23, false)) (.indexStr (.t 24) (.n 0)) .no, .mk (some 26) (some (23, false)) (.bin .eql (.t 25) (.c (.one (.st (.int .u8 99))))) .no, .i 27 (.pick (.t 23) (.c (.one (.st (.bool true)))) (.t 26))]) (.cond (.t 27) (.seq (.ops [.i 2 (.mov (.n 1))]) .ret) .skip)) (.seq (.ops [.m 28 0, .m 29 3, .i 30 (.sliceL 1 (.t 28) none (some (.t 29))), .m 31 4, .i 32 (.call 40 [.t 30, .t 31])]) (.cond (.t 32) (.seq (.ops [.i 2 (.mov (.n 4))]) .ret) .skip))))) (.ops [.i 33 (.bin .add (.t 10) (.n 1)), .m 10 33]))))))) (.seq (.ops [.i 2 (.mov (.n 0))]) .ret))))
theorem ok_lambda_Names : OkF Tryd.prog 27 34 [] ir_lambda_Names [.t 2] := .of Tryd.func27 rfl rfl (by kernel_rfl) rfl

def freeL : List ByteArray → List ByteArray → Int
  | _, [] => 0
  | p, n :: r => if nameOk n = true ∧ byteAt n 0 ≠ 120 ∧ byteAt n 0 ≠ 99 then (if isIn n p = true then 4 else freeL (p ++ [n]) r) else 1
def freeMay (l : List ByteArray) : Int := if 40 < l.length then 3 else freeL [] l
theorem freeL_at {l : List ByteArray} {k : Nat} {n : ByteArray} (h : l[k]? = some n) : freeL (l.take k) (l.drop k) = if nameOk n = true ∧ byteAt n 0 ≠ 120 ∧ byteAt n 0 ≠ 99 then (if isIn n (l.take k) = true then 4 else freeL (l.take (k + 1)) (l.drop (k + 1))) else 1 := by
  obtain ⟨hk, rfl⟩ := List.getElem?_eq_some_iff.1 h
  rw [List.drop_eq_getElem_cons hk, freeL, take_snoc h]
theorem freeL_range : ∀ (p l : List ByteArray), 0 ≤ freeL p l ∧ freeL p l ≤ 15
  | _, [] => by rw [freeL]; decide
  | p, n :: r => by
    rw [freeL]
    split
    · split
      · decide
      · exact freeL_range _ r
    · decide
theorem freeMay_range (l : List ByteArray) : 0 ≤ freeMay l ∧ freeMay l ≤ 15 := by
  unfold freeMay
  split
  · decide
  · exact freeL_range _ _
theorem names_a (l : List ByteArray) : ACalls Tryd.prog 27 [aStrs l] (aInt (freeMay l)) := by
  refine ok_lambda_Names.ac fun C hC => ?_
  unfold ir_lambda_Names
  unfold freeMay
  by_cases h40 : (40 : Int) < l.length
  · rw [if_pos (by omega)]
    repeat' (first | (with_reducible first | refine W ?_ | refine Wz0 ?_) | ((with_reducible first | refine Wo (fun K hK => ?_) | refine Wp ?_ | refine Wq ?_ | refine Wr ?_); (try simp only [go_sem, fN, seval, eT, iR, h40, dT, dF, nL]); (repeat with_reducible refine Ai ?_); (try (refine hK _ ?_; clear hK K)); (try with_reducible refine iC ?_)))
    simp only [go_sem, fN, seval, FinQ, AS.result, resAll, resOne, tupV]
  rw [if_neg (by omega)]
  repeat' (first | (with_reducible first | refine W ?_ | refine Wz0 ?_) | ((with_reducible first | refine Wo (fun K hK => ?_) | refine Wp ?_ | refine Wq ?_ | refine Wr ?_); (try simp only [go_sem, fN, seval, eT, iR, h40, dT, dF, nL]); (repeat with_reducible refine Ai ?_); (try (refine hK _ ?_; clear hK K)); (try with_reducible refine iC ?_)))
  refine IWP.loop (fun n s => ∃ k, k ≤ l.length ∧ n = l.length - k ∧ freeL [] l = freeL (l.take k) (l.drop k) ∧ s.env 0 = aStrs l ∧ s.env 8 = aStrs l ∧ s.env 9 = aInt l.length ∧ s.env 10 = aInt k) l.length ⟨0, Nat.zero_le _, rfl, by simp, rfl, rfl, rfl, rfl⟩ ?_
  rintro n ⟨env, S⟩ ⟨k, hk, rfl, hf, e0, e8, e9, e10⟩
  simp only at e0 e8 e9 e10
  rw [hf]
  by_cases hlt : (k : Int) < l.length
  · obtain ⟨a, ha⟩ := get_lt (show k < l.length by omega)
    have hpre : (l.map encS).take k = (l.take k).map encS := List.map_take.symm
    rw [freeL_at ha]
    by_cases h1 : nameOk a = true
    case neg =>
      rw [if_neg fun h => h1 h.1]
      repeat' (first | (with_reducible first | refine W ?_ | refine Wz0 ?_) | refine Cg _ (name_a a) ?_ | ((with_reducible first | refine Wo (fun K hK => ?_) | refine Wp ?_ | refine Wq ?_ | refine Wr ?_); (try simp only [go_sem, fN, seval, eT, iR, e0, e8, e9, e10, hlt, ha, h1, dT, dF, nL]); (repeat with_reducible refine Ai ?_); (try (refine hK _ ?_; clear hK K)); (try with_reducible refine iC ?_)))
      simp only [go_sem, fN, seval, FinQ, AS.result, resAll, resOne, tupV]
    obtain ⟨z1, _, _⟩ := nameOk_cases h1
    have z0 : 0 < a.size := z1
    by_cases h2 : byteAt a 0 = 120
    · rw [if_neg fun h => h.2.1 h2]
      repeat' (first | (with_reducible first | refine W ?_ | refine Wz0 ?_) | refine Cg _ (name_a a) ?_ | ((with_reducible first | refine Wo (fun K hK => ?_) | refine Wp ?_ | refine Wq ?_ | refine Wr ?_); (try simp only [go_sem, fN, seval, eT, iR, e0, e8, e9, e10, hlt, ha, h1, h2, z0, byteN_eq, dT, dF, nL]); (repeat with_reducible refine Ai ?_); (try (refine hK _ ?_; clear hK K)); (try with_reducible refine iC ?_)))
      simp only [go_sem, fN, seval, FinQ, AS.result, resAll, resOne, tupV]
    by_cases h3 : byteAt a 0 = 99
    · rw [if_neg fun h => h.2.2 h3]
      repeat' (first | (with_reducible first | refine W ?_ | refine Wz0 ?_) | refine Cg _ (name_a a) ?_ | ((with_reducible first | refine Wo (fun K hK => ?_) | refine Wp ?_ | refine Wq ?_ | refine Wr ?_); (try simp only [go_sem, fN, seval, eT, iR, e0, e8, e9, e10, hlt, ha, h1, h2, h3, z0, byteN_eq, dT, dF, nL]); (repeat with_reducible refine Ai ?_); (try (refine hK _ ?_; clear hK K)); (try with_reducible refine iC ?_)))
      simp only [go_sem, fN, seval, FinQ, AS.result, resAll, resOne, tupV]
    rw [if_pos ⟨h1, h2, h3⟩]
    by_cases h4 : isIn a (l.take k) = true
    · rw [if_pos h4]
      repeat' (first | (with_reducible first | refine W ?_ | refine Wz0 ?_) | refine Cg _ (name_a a) ?_ | refine Cg _ (contains_a (l.take k) a) ?_ | ((with_reducible first | refine Wo (fun K hK => ?_) | refine Wp ?_ | refine Wq ?_ | refine Wr ?_); (try simp only [go_sem, fN, seval, eT, iR, e0, e8, e9, e10, hlt, ha, h1, h2, h3, h4, z0, byteN_eq, hpre, dT, dF, nL]); (repeat with_reducible refine Ai ?_); (try (refine hK _ ?_; clear hK K)); (try with_reducible refine iC ?_)))
      simp only [go_sem, fN, seval, FinQ, AS.result, resAll, resOne, tupV]
    · rw [if_neg h4]
      repeat' (first | (with_reducible first | refine W ?_ | refine Wz0 ?_) | refine Cg _ (name_a a) ?_ | refine Cg _ (contains_a (l.take k) a) ?_ | ((with_reducible first | refine Wo (fun K hK => ?_) | refine Wp ?_ | refine Wq ?_ | refine Wr ?_); (try simp only [go_sem, fN, seval, eT, iR, e0, e8, e9, e10, hlt, ha, h1, h2, h3, h4, z0, byteN_eq, hpre, dT, dF, nL]); (repeat with_reducible refine Ai ?_); (try (refine hK _ ?_; clear hK K)); (try with_reducible refine iC ?_)))
      refine then_normal ⟨l.length - (k + 1), by omega, k + 1, by omega, rfl, rfl, ?_⟩
      simp only [go_sem, fN, seval, eT, iR, e0, e8, e9, e10]
      congr 3
  · rw [List.take_of_length_le (by omega), List.drop_eq_nil_of_le (by omega), freeL]
    repeat' (first | (with_reducible first | refine W ?_ | refine Wz0 ?_) | ((with_reducible first | refine Wo (fun K hK => ?_) | refine Wp ?_ | refine Wq ?_ | refine Wr ?_); (try simp only [go_sem, fN, seval, eT, iR, e0, e8, e9, e10, hlt, dT, dF, nL]); (repeat with_reducible refine Ai ?_); (try (refine hK _ ?_; clear hK K)); (try with_reducible refine iC ?_)))
    simp only [go_sem, fN, seval, FinQ, AS.result, resAll, resOne, tupV]

def fourth : Code → Code
  | .seq _ (.seq _ (.seq _ (.seq d _))) => d
  | c => c
section
variable {P : Program}
theorem acalls_defer3 {f : FuncId} {fn : Func} {mu : List Nat} {c : Code} {xA xB xZ xD xE : IR} {rs : List RV} {xs : List AV} {r : AV} {g t id : Nat} {caps : Array Operand} {xs' : List Opd} {oM oF : Oper} {ts : Array TypeId}
    (hf : P.funcs[f]? = some fn) (hb : fn.body = some c) (hx : trCode P fn.ntmps mu c = some (.seq xA (.seq xB (.seq xZ (.seq xD xE))))) (hr : trRes P fn.ntmps fn.results.toList = some rs) (hn : xs.length ≤ fn.ntmps)
    (hD : fourth c = .region id #[oM, oF] false) (hM1 : oM.op = .makeFunc (.func g) #[] caps) (hM2 : oM.dst = some t) (hM3 : oM.guard = none) (hF1 : oF.op = .defer { callee := .value (.tmp t), args := #[], argTypes := ts }) (hF2 : oF.dst = none) (hF3 : oF.guard = none) (ht : t < fn.ntmps)
    (hcaps : trOpds fn.ntmps caps.toList = some xs') (hpl : plainF P g = true)
    (h : ∀ C : Ctx, C.n = fn.ntmps → IWP P C mu xA (AX.then (fun s => IWP P C mu xB (AX.then (fun s => IWP P C mu xZ (AX.then (fun s => ∃ cs, s.caps xs' = some cs ∧ ∀ C' : Ctx, C'.n = fn.ntmps → IWP P C' mu xE (EndD P g (cs.map fun c => (AV.one c).ren up1) rs r) (s.put (some t) (.one (.fn g cs))).up) (FinQ rs r)) s) (FinQ rs r)) s) (FinQ rs r)) (AS.start xs)) : ACalls P f xs r := by
  intro σ w vs hglob hfit hvs
  have hl := hvs.len
  let C : Ctx := ⟨fn.ntmps, w.heap.size, fun _ => False, σ, w, noS, noH, fun i b h => by simp [noS] at h, hglob, [], none, true⟩
  obtain ⟨A, c2, rfl, hA, h2⟩ := trCode_seq hx
  obtain ⟨B, c3, rfl, hB, h3⟩ := trCode_seq h2
  obtain ⟨Z, c4, rfl, hZ, h4⟩ := trCode_seq h3
  obtain ⟨D, E, rfl, hD', hE⟩ := trCode_seq h4
  have hD : D = .region id #[oM, oF] false := hD
  subst hD
  refine calls_of_wp_defers hf hb ?_
  have R0 : Refs C σ noH (AS.start xs) { tmps := vs.toArray ++ Array.replicate (fn.ntmps - vs.toArray.size) undef, defers := [] } w := by
    refine ⟨by simp [C]; omega, fun i hi => ?_, marks_nil, hfit, fun id b h => by simp [AS.start, noS] at h, fun id id' b b' g h => by simp [AS.start, noS] at h, fun id b g h => by simp [AS.start, noS] at h, fun _ _ h => h, fun _ _ _ => rfl, ⟨rfl, rfl, rfl⟩, ⟨Nat.le_refl _, Nat.le_refl _⟩, fun _ _ _ => rfl, Upd.refl _ _⟩
    show VRep σ noS noH _ ((xs[i]?).getD (.tup []))
    rw [Array.getD_eq_getD_getElem?]
    by_cases hlt : i < vs.length
    · rw [Array.getElem?_append_left (by simpa using hlt)]
      obtain ⟨b, hb1, hb2⟩ := hvs.get' (List.getElem?_eq_getElem hlt)
      rw [hb1]
      simpa [hlt] using hb2
    · rw [Array.getElem?_append_right (by simp; omega), List.getElem?_eq_none (by omega)]
      have hi' : i < fn.ntmps := hi
      rw [Array.getElem?_replicate, if_pos (by simp; omega)]
      exact .tup (fun _ => undef) rfl (by simp) (by simp)
  have early : ∀ (s : AS) (a' : Act) (w' : World), s.result rs = some r → Holds C s a' w' → Leaves P fn a'.tmps (fun e w' => ∃ v σ', e = .returned v ∧ VRep σ' noS noH v r ∧ Fit σ' w' ∧ Ext w.heap.size σ σ' ∧ Below w.heap.size w w') a'.defers .returning w' := by
    intro s a' w' hs hH
    obtain ⟨σ', ι', R'⟩ := hH
    obtain ⟨v, v1, v2⟩ := res_val R' (fn := fn) hr hs
    have hnod : a'.defers = [] := R'.nod.none rfl
    rw [hnod]
    exact ⟨v, v1, v, σ', rfl, v2, R'.fit, ⟨R'.ext, fun p hp => R'.old p hp (fun h => h)⟩, ⟨R'.os.1, R'.os.2.1, R'.os.2.2, R'.grown.2, fun k hk => R'.same k hk (fun h => h)⟩⟩
  refine wp_seq (wp_mono (wpIn_wide.1 (h C rfl A hA _ w ⟨σ, noH, R0⟩)) fun e a' w' he => ?_)
  cases e with
  | normal =>
    obtain ⟨s, hs, hH⟩ := he
    refine wp_seq (wp_mono (wpIn_wide.1 (hs B hB a' w' hH)) fun e a' w' he => ?_)
    cases e with
    | normal =>
      obtain ⟨s, hs, hH⟩ := he
      refine wp_seq (wp_mono (wpIn_wide.1 (hs Z hZ a' w' hH)) fun e a' w' he => ?_)
      cases e with
      | normal =>
        obtain ⟨s, ⟨cs, hcs, hwalk⟩, ⟨σ1, ι1, R⟩⟩ := he
        refine wp_seq ?_
        have rc := caps_rep R hcaps hcs
        have ecap : (caps.toList.map a'.eval).toArray = caps.map a'.eval := by rw [← Array.toList_map, Array.toArray_toList]
        have hv : VRep σ1 s.S ι1 (.func (.func g) #[] (caps.map a'.eval)) (.one (.fn g cs)) := by
          rw [← ecap]
          refine .one (.fn (fun j => ((caps.toList.map a'.eval)[j]?).getD undef) (by simpa using rc.len) (fun j b hb => ?_) (fun j b hb => ?_))
          · obtain ⟨v, v1, v2⟩ := rc.get hb
            rw [v1]
            simpa using v1
          · obtain ⟨v, v1, v2⟩ := rc.get hb
            rw [v1]
            exact v2
        have rf : (execOp a'.eval oM).run P w' = .ok (.value (.func (.func g) #[] (caps.map a'.eval))) w' := by
          simp [execOp, hM1, Instr.makeFunc]
        have R1 := R.put (d := some t) hv
        have hta : t < a'.tmps.size := Nat.lt_of_lt_of_le ht R.size
        have hev : (a'.put (some t) (.func (.func g) #[] (caps.map a'.eval))).eval (.tmp t) = .func (.func g) #[] (caps.map a'.eval) := by
          simp [Act.eval, Act.put, hta]
        have rF : (execOp (a'.put (some t) (.func (.func g) #[] (caps.map a'.eval))).eval oF).run P w' = .ok (.defer { target := .fn (.func g) (caps.map a'.eval), args := #[] }) w' := by
          simp [execOp, hF1, resolve, hev, Deferred.ofValue]
        refine wp_region ?_
        show wpOps P #[oM, oF] _ [0, 1] a' w'
        rw [wpOps_cons]
        show (if Region.wanted oM _ then _ else _)
        rw [if_pos (by simp [Region.wanted, hM3])]
        refine .inl ?_
        show Oper.wp P oM a' w' _ _
        unfold Oper.wp
        rw [rf, Oper.upon_value, hM2, wpOps_cons]
        show (if Region.wanted oF _ then _ else _)
        rw [if_pos (by simp [Region.wanted, hF3])]
        refine .inl ?_
        show Oper.wp P oF _ w' _ _
        unfold Oper.wp
        rw [rF, Oper.upon_defer, hF2]
        let C' : Ctx := ⟨fn.ntmps, w.heap.size, fun _ => False, σ1, w', upS s.S, fun i => ι1 (dn1 i), clean_upS _, hglob.mono R.ext, [{ target := .fn (.func g) (caps.toList.map a'.eval).toArray, args := #[] }], none, true⟩
        have hnod0 : a'.defers = [] := R.nod.none rfl
        have RC : Refs C' σ1 (fun i => ι1 (dn1 i)) (s.put (some t) (.one (.fn g cs))).up { a'.put (some t) (.func (.func g) #[] (caps.map a'.eval)) with defers := { target := .fn (.func g) (caps.map a'.eval), args := #[] } :: (a'.put (some t) (.func (.func g) #[] (caps.map a'.eval))).defers } w' := by
          refine ⟨R1.size, fun i hi => val_up R1 (R1.env i hi), ?_, R1.fit, (owned_up R1).1, (owned_up R1).2, fun id b g hb hg => ?_, fun _ _ h => h, fun _ _ _ => rfl, ⟨rfl, rfl, rfl⟩, ⟨R.grown.1, Nat.le_refl _⟩, fun _ _ _ => rfl, Upd.refl _ _⟩
          · have e0 : ({ target := .fn (.func g) (caps.map a'.eval), args := #[] } : Deferred) :: a'.defers = C'.ds := by rw [hnod0, ← ecap]
            have m0 : Marks C' C'.ds w' := marks_nil
            rw [← e0] at m0
            exact m0
          · obtain ⟨_, b', k1, _⟩ := upS_inv hb
            exact R1.base _ _ g k1 hg
        have hvs1 : All2 (VRep σ1 (upS s.S) (fun i => ι1 (dn1 i))) (caps.toList.map a'.eval) (cs.map fun c => (AV.one c).ren up1) := (rc.mono fun _ _ x => val_up R (.one x)).map_right
        have fin : ∀ (s4 : AS) (a4 : Act) (w4 : World), s4.result rs = some r → Holds C' s4 a4 w4 → ∃ v, (results fn a4.tmps).run P w4 = .ok v w4 ∧ ∃ v1 σ', Ending.returned v = .returned v1 ∧ VRep σ' noS noH v1 r ∧ Fit σ' w4 ∧ Ext w.heap.size σ σ' ∧ Below w.heap.size w w4 := fun s4 a4 w4 hs4 hH4 => by
          obtain ⟨σ4, ι4, R4⟩ := hH4
          obtain ⟨v, v1, v2⟩ := res_val R4 (fn := fn) hr hs4
          exact ⟨v, v1, v, σ4, rfl, v2, R4.fit, ⟨fun p x hp => R4.ext p x (R.ext p x hp), fun p hp => (R4.old p hp (fun h => h)).trans (R.old p hp (fun h => h))⟩, ⟨R4.os.1.trans R.os.1, R4.os.2.1.trans R.os.2.1, R4.os.2.2.trans R.os.2.2, Nat.le_trans R.grown.2 R4.grown.2, fun k hk => (R4.same k hk (fun h => h)).trans (R.same k hk (fun h => h))⟩⟩
        refine wp_mono (wpIn_wide.1 (hwalk C' rfl E hE _ w' ⟨σ1, _, RC⟩)) fun e a3 w3 he => ?_
        cases e with
        | normal =>
          obtain ⟨s3, ⟨S', hdef, hres⟩, ⟨σ3, ι3, R3⟩⟩ := he
          show Leaves P fn a3.tmps _ a3.defers .returning w3
          rw [R3.nod.none rfl]
          exact leaves_one R3 hpl (hvs1.mono fun _ _ x => x.mono R3.ext R3.upd) (by simp) hdef rfl fun w4 hH4 => fin _ _ _ hres hH4
        | ret =>
          obtain ⟨s3, ⟨S', hdef, hres⟩, ⟨σ3, ι3, R3⟩⟩ := he
          show Leaves P fn a3.tmps _ a3.defers .returning w3
          rw [R3.nod.none rfl]
          exact leaves_one R3 hpl (hvs1.mono fun _ _ x => x.mono R3.ext R3.upd) (by simp) hdef rfl fun w4 hH4 => fin _ _ _ hres hH4
        | exit id =>
          obtain ⟨s3, h3, _⟩ := he
          exact h3.elim
        | panic ch =>
          obtain ⟨s3, v, ⟨⟨u', S', hdef, hset, hres⟩, rfl⟩, ⟨σ3, ι3, R3⟩⟩ := he
          show Leaves P fn a3.tmps _ a3.defers (.panicking _) w3
          rw [R3.nod.none rfl]
          exact leaves_one R3 hpl (hvs1.mono fun _ _ x => x.mono R3.ext R3.upd) (by simp) hdef hset fun w4 hH4 => fin _ _ _ hres hH4
        | goto l => exact he.elim
        | outgrown => exact he.elim
      | ret =>
        obtain ⟨s, h1, h2⟩ := he
        exact early s _ _ (show FinQ rs r .ret s from h1).2 h2
      | exit id =>
        obtain ⟨s, h1, h2⟩ := he
        exact (show FinQ rs r (.exit id) s from h1).1.elim
      | panic ch =>
        obtain ⟨s, v, h1, h2⟩ := he
        exact (show FinQ rs r (.pan v) s from h1.1).1.elim
      | goto l => exact he.elim
      | outgrown => exact he.elim
    | ret =>
      obtain ⟨s, h1, h2⟩ := he
      exact early s _ _ (show FinQ rs r .ret s from h1).2 h2
    | exit id =>
      obtain ⟨s, h1, h2⟩ := he
      exact (show FinQ rs r (.exit id) s from h1).1.elim
    | panic ch =>
      obtain ⟨s, v, h1, h2⟩ := he
      exact (show FinQ rs r (.pan v) s from h1.1).1.elim
    | goto l => exact he.elim
    | outgrown => exact he.elim
  | ret =>
    obtain ⟨s, h1, h2⟩ := he
    exact early s _ _ (show FinQ rs r .ret s from h1).2 h2
  | exit id =>
    obtain ⟨s, h1, h2⟩ := he
    exact (show FinQ rs r (.exit id) s from h1).1.elim
  | panic ch =>
    obtain ⟨s, v, h1, h2⟩ := he
    exact (show FinQ rs r (.pan v) s from h1.1).1.elim
  | goto l => exact he.elim
  | outgrown => exact he.elim
end

def lparse (s : ByteArray) (free : List ByteArray) : Lm × Int := if freeMay free = 0 then (if 4000 < s.size then (.nil, 3) else lrEnd s free) else (.nil, freeMay free)
def lreadV (r : Lm × Int) : AV := .tup [aLm r.1, aInt r.2]
theorem cloneS_N (l : List ByteArray) (hl : l.length ≤ 1000000) : ACallsN Tryd.prog 29 [aStrs l] 9 1 (l.map encS) true := by
  unfold ACallsN
  rw [List.length_map]
  refine ok_slices_Clone_string_string.acS fun hS C hC => ?_
  unfold ir_slices_Clone_string_string
  by_cases h0 : l.length = 0
  · have hl : l = [] := List.eq_nil_of_length_eq_zero h0
    subst hl
    repeat' (first | (with_reducible first | refine W ?_ | refine Wz0 ?_) | ((with_reducible first | refine Wo (fun K hK => ?_) | refine Wp ?_ | refine Wq ?_ | refine Wr ?_); (try simp only [go_sem, fN, seval, eT, iR, dT, dF, nL]); (repeat with_reducible refine Ai ?_); (try (refine hK _ ?_; clear hK K)); (try with_reducible refine iC ?_)))
    refine ⟨?_, ?_⟩
    · repeat' (first | (with_reducible first | refine W ?_ | refine Wz0 ?_) | ((with_reducible first | refine Wo (fun K hK => ?_) | refine Wp ?_ | refine Wq ?_ | refine Wr ?_); (try simp only [go_sem, fN, seval, eT, iR, dT, dF, nL]); (repeat with_reducible refine Ai ?_); (try (refine hK _ ?_; clear hK K)); (try with_reducible refine iC ?_)))
      refine finS_ghost (Ghost.ownM (C := C) 2 30 9 1 rfl rfl (by omega)) ?_
      exact finN (mu := true) trivial 30 (by decide) rfl (fun i hi => by show updE _ _ _ _ = _; rw [updE_ne _ (by omega)]; rfl) rfl
    · repeat' (first | (with_reducible first | refine W ?_ | refine Wz0 ?_) | ((with_reducible first | refine Wo (fun K hK => ?_) | refine Wp ?_ | refine Wq ?_ | refine Wr ?_); (try simp only [go_sem, fN, seval, eT, iR, dT, dF, nL]); (repeat with_reducible refine Ai ?_); (try (refine hK _ ?_; clear hK K)); (try with_reducible refine iC ?_)))
      exact finN (mu := true) trivial 7 (by decide) rfl (fun i hi => by show updE _ _ _ _ = _; rw [updE_ne _ (by omega)]; rfl) rfl
  · have hb : l.length * 16 ≤ 140737488355328 := by omega
    repeat' (first | (with_reducible first | refine W ?_ | refine Wz0 ?_) | ((with_reducible first | refine Wo (fun K hK => ?_) | refine Wp ?_ | refine Wq ?_ | refine Wr ?_); (try simp only [go_sem, fN, seval, eT, iR, h0, hb, dT, dF, nL]); (repeat with_reducible refine Ai ?_); (try (refine hK _ ?_; clear hK K)); (try with_reducible refine iC ?_)))
    exact finN (mu := true) trivial 7 (by decide) rfl (fun i hi => by show updE _ _ _ _ = _; rw [updE_ne _ (by omega)]; rfl) rfl
theorem lendD_pan {n : Int} (hn : inR .i64 n) {x : AS} {c1 c2 c3 : AC} {x1 : AC} (e2 : x.env 4 = .one (.ptr 1004 1 0 0)) (e3 : x.env 5 = .one (.ptr 1005 1 0 0)) (t2 : x.S 1004 = some (.box 25 [c1, c2, c3])) (t3 : x.S 1005 = some (.box 28 [x1])) :
    EndD Tryd.prog 28 [.one (.ptr 1004 1 0 0), .one (.ptr 1005 1 0 0)] [RV.cell 4 true 3, RV.cell 5 false 1] (lreadV (.nil, n)) (.pan (lfault n)) x := by
  refine ⟨_, _, lparse1_pan n hn 2004 2005 (upS x.S) (cs1 := [c1.ren up1, c2.ren up1, c3.ren up1]) (x1 := x1.ren up1) (by decide) (by decide) (by decide) ?_ rfl ?_, lsettled n, ?_⟩
  · rw [show (2004 : Nat) = up1 1004 from rfl, upS_up, t2]
    rfl
  · rw [show (2005 : Nat) = up1 1005 from rfl, upS_up, t3]
    rfl
  · unfold lgone
    rw [show (2004 : Nat) = up1 1004 from rfl, show (2005 : Nat) = up1 1005 from rfl, dnS_upd, dnS_upd, dn_upS]
    unfold AS.result
    simp only [go_sem, fN, seval, eT, iR, resAll, resOne, tupV, e2, e3]
    rfl
set_option maxRecDepth 100000 in
theorem lparse_a (s : ByteArray) (free : List ByteArray) (hl : free.length ≤ 1000) : ACalls Tryd.prog 18 [aStr s, aStrs free] (lreadV (lparse s free)) := by
  have hfr := freeMay_range free
  unfold lparse
  refine acalls_defer3 (f := 18) (g := 28) (t := 18) (rs := [.cell 4 true 3, .cell 5 false 1]) Tryd.func18 rfl tr_lambda_Parse rfl (Nat.le_of_ble_eq_true rfl) rfl rfl rfl rfl rfl rfl rfl (Nat.le_of_ble_eq_true rfl) rfl (by kernel_rfl) fun C hC => ?_
  have hC : C.n = 33 := hC
  by_cases h1 : freeMay free = 0
  case neg =>
    rw [if_neg h1]
    unfold lreadV
    repeat' (first | (with_reducible first | refine W ?_ | refine Wz0 ?_) | ((with_reducible first | refine Wx rfl (fun K hK => ?_) | refine Wp ?_ | refine Wq ?_ | refine Wr ?_); (try simp only [go_sem, fN, seval, eT, iR, h1, dT, dF, nL]); (repeat with_reducible refine Ai ?_); (try (refine hK _ ?_; clear hK K)); (try with_reducible refine iC ?_)))
    refine then_normal ?_
    repeat' (first | (with_reducible first | refine W ?_ | refine Wz0 ?_) | refine Cg _ (names_a free) ?_ | ((with_reducible first | refine Wx rfl (fun K hK => ?_) | refine Wp ?_ | refine Wq ?_ | refine Wr ?_); (try simp only [go_sem, fN, seval, eT, iR, h1, dT, dF, nL]); (repeat with_reducible refine Ai ?_); (try (refine hK _ ?_; clear hK K)); (try with_reducible refine iC ?_)))
    simp only [go_sem, fN, seval, FinQ, AS.result, resAll, resOne, tupV]
    rfl
  rw [if_pos h1]
  by_cases h0 : (4000 : Int) < s.size
  · rw [if_pos (by omega)]
    unfold lreadV
    repeat' (first | (with_reducible first | refine W ?_ | refine Wz0 ?_) | ((with_reducible first | refine Wx rfl (fun K hK => ?_) | refine Wp ?_ | refine Wq ?_ | refine Wr ?_); (try simp only [go_sem, fN, seval, eT, iR, h0, dT, dF, nL]); (repeat with_reducible refine Ai ?_); (try (refine hK _ ?_; clear hK K)); (try with_reducible refine iC ?_)))
    refine then_normal ?_
    repeat' (first | (with_reducible first | refine W ?_ | refine Wz0 ?_) | refine Cg _ (names_a free) ?_ | ((with_reducible first | refine Wx rfl (fun K hK => ?_) | refine Wp ?_ | refine Wq ?_ | refine Wr ?_); (try simp only [go_sem, fN, seval, eT, iR, h1, h0, dT, dF, nL]); (repeat with_reducible refine Ai ?_); (try (refine hK _ ?_; clear hK K)); (try with_reducible refine iC ?_)))
    refine then_normal ?_
    repeat' (first | (with_reducible first | refine W ?_ | refine Wz0 ?_) | ((with_reducible first | refine Wx rfl (fun K hK => ?_) | refine Wp ?_ | refine Wq ?_ | refine Wr ?_); (try simp only [go_sem, fN, seval, eT, iR, h0, dT, dF, nL]); (repeat with_reducible refine Ai ?_); (try (refine hK _ ?_; clear hK K)); (try with_reducible refine iC ?_)))
    simp only [go_sem, fN, seval, FinQ, AS.result, resAll, resOne, tupV]
    rfl
  have hs : s.size ≤ 100000 := by omega
  rw [if_neg (by omega)]
  repeat' (first | (with_reducible first | refine W ?_ | refine Wz0 ?_) | ((with_reducible first | refine Wx rfl (fun K hK => ?_) | refine Wp ?_ | refine Wq ?_ | refine Wr ?_); (try simp only [go_sem, fN, seval, eT, iR, h0, dT, dF, nL]); (repeat with_reducible refine Ai ?_); (try (refine hK _ ?_; clear hK K)); (try with_reducible refine iC ?_)))
  refine then_normal ?_
  repeat' (first | (with_reducible first | refine W ?_ | refine Wz0 ?_) | refine Cg _ (names_a free) ?_ | ((with_reducible first | refine Wx rfl (fun K hK => ?_) | refine Wp ?_ | refine Wq ?_ | refine Wr ?_); (try simp only [go_sem, fN, seval, eT, iR, h1, h0, dT, dF, nL]); (repeat with_reducible refine Ai ?_); (try (refine hK _ ?_; clear hK K)); (try with_reducible refine iC ?_)))
  refine then_normal ?_
  repeat' (first | (with_reducible first | refine W ?_ | refine Wz0 ?_) | ((with_reducible first | refine Wx rfl (fun K hK => ?_) | refine Wp ?_ | refine Wq ?_ | refine Wr ?_); (try simp only [go_sem, fN, seval, eT, iR, h0, dT, dF, nL]); (repeat with_reducible refine Ai ?_); (try (refine hK _ ?_; clear hK K)); (try with_reducible refine iC ?_)))
  refine then_normal ⟨_, by simp [AS.caps]; rfl, fun C' hC' => ?_⟩
  have hC' : C'.n = 33 := hC'
  generalize hT : AS.up _ = T
  have e0 : T.env 0 = aStr s := by subst hT; rfl
  have e1 : T.env 1 = aStrs free := by subst hT; rfl
  have e4 : T.env 4 = .one (.ptr 1004 1 0 0) := by subst hT; rfl
  have e5 : T.env 5 = .one (.ptr 1005 1 0 0) := by subst hT; rfl
  have t4 : T.S 1004 = some boxT0l := by subst hT; rfl
  have t5 : T.S 1005 = some (.box 28 [.st (.int .i64 0)]) := by subst hT; rfl
  have t21 : T.S 21 = none := by subst hT; rfl
  have t23 : T.S 23 = none := by subst hT; rfl
  have t900 : T.S 900 = none := by subst hT; rfl
  obtain ⟨env, S⟩ := T
  simp only at e0 e1 e4 e5 t4 t5 t21 t23 t900
  clear hT
  have h40 : free.length ≤ 40 := by
    unfold freeMay at h1
    by_cases h : 40 < free.length
    · rw [if_pos h] at h1; cases h1
    · omega
  have hcall := fun S' h1 h2 h3 => (lread_S hs (3 * s.size + 3)).1 free 0 0 (up1 23) (up1 21) (up1 900) (free.length + s.size + 2) S' (by omega) (by omega) (by omega) (by omega) (by omega) (up1_le 23) (up1_le 21) (up1_le 900) h1 h2 h3
  have hr : lrT s (3 * s.size + 3) free 0 0 = lrS s free := rfl
  rw [hr, tail_zero] at hcall
  have hok := lrT_ok s (3 * s.size + 3) free 0 0 (by omega) (by omega) (by omega)
  rw [hr] at hok
  unfold lrEnd
  generalize lrS s free = q at *
  have hrange : inR .i64 q.e := by
    rw [inR_i64]
    have := hok.err
    omega
  by_cases he : q.e = 0
  case neg =>
    rw [if_neg he]
    repeat' (first | (with_reducible first | refine W ?_ | refine Wz0 ?_) | ((with_reducible first | refine Wx rfl (fun K hK => ?_) | refine Wp ?_ | refine Wq ?_ | refine Wr ?_); (try simp only [go_sem, fN, seval, eT, iR, e0, e1, e4, e5, t4, t5, t21, t23, t900, dT, dF, nL]); (repeat with_reducible refine Ai ?_); (try (refine hK _ ?_; clear hK K)); (try with_reducible refine iC ?_)))
    refine CallNG.mk _ _ _ _ (cloneS_N free (by omega)) ⟨t21, by simp, ?_⟩
    have hml : (free.map encS).length = free.length := by simp
    repeat' (first | (with_reducible first | refine W ?_ | refine Wz0 ?_) | (first | refine IWP.opsPanE 1 ⟨some 25, none, .callS 30 [.t 24], .no⟩ rfl (by kernel_rfl) ?_) | ((with_reducible first | refine Wx rfl (fun K hK => ?_) | refine Wp ?_ | refine Wq ?_ | refine Wr ?_); (try simp only [go_sem, fN, seval, eT, iR, e0, e1, e4, e5, t4, t5, t21, t23, t900, hml, rowB, dT, dF, nL]); (repeat with_reducible refine Ai ?_); (try (refine hK _ ?_; clear hK K)); (try with_reducible refine iC ?_)))
    simp only [go_sem, fN, seval, eT, iR, PanAt, List.take_succ_cons, List.take_zero, e0, e1, e4, e5, t4, t5]
    refine ⟨_, _, (hcall _ (up_boxL (by simp only [go_sem, fN, seval, eT, iR])) (up_rowL (by simp only [go_sem, fN, seval, eT, iR])) (up_none (by simp only [go_sem, fN, seval, eT, iR, t900]))).2 he, fun envP hE => ?_⟩
    refine Wy (lendD_pan (c1 := .st (.int .i64 0)) (c2 := .st (.int .i64 0)) (c3 := .full []) (x1 := .st (.int .i64 0)) hrange ((hE 4 rfl).trans (by simp only [go_sem, fN, seval, eT, iR, e4])) ((hE 5 rfl).trans (by simp only [go_sem, fN, seval, eT, iR, e5])) ?_ ?_)
    · simp only [go_sem, fN, seval, eT, iR, dn_lfail, lfail, t4]
    · simp only [go_sem, fN, seval, eT, iR, dn_lfail, lfail, t5]
  rw [if_pos he]
  obtain ⟨o1, o2, o3, o4⟩ := hok.ok he
  have hml : (free.map encS).length = free.length := by simp
  by_cases h2 : q.i < s.size
  · have h2n : ¬ tailS s q.i = ⟨#[]⟩ := fun h => by have := (ltail_nil o1).1 h; omega
    rw [if_pos h2]
    repeat' (first | (with_reducible first | refine W ?_ | refine Wz0 ?_) | ((with_reducible first | refine Wx rfl (fun K hK => ?_) | refine Wp ?_ | refine Wq ?_ | refine Wr ?_); (try simp only [go_sem, fN, seval, eT, iR, e0, e1, e4, e5, t4, t5, t21, t23, t900, dT, dF, nL]); (repeat with_reducible refine Ai ?_); (try (refine hK _ ?_; clear hK K)); (try with_reducible refine iC ?_)))
    refine CallNG.mk _ _ _ _ (cloneS_N free (by omega)) ⟨t21, by simp, ?_⟩
    repeat' (first | (with_reducible first | refine W ?_ | refine Wz0 ?_) | ((with_reducible first | refine Wx rfl (fun K hK => ?_) | refine Wp ?_ | refine Wq ?_ | refine Wr ?_); (try simp only [go_sem, fN, seval, eT, iR, e0, e1, e4, e5, t4, t5, t21, t23, t900, hml, rowB, dT, dF, nL]); (repeat with_reducible refine Ai ?_); (try (refine hK _ ?_; clear hK K)); (try with_reducible refine iC ?_)))
    refine ⟨_, _, (hcall _ (up_boxL (by simp only [go_sem, fN, seval, eT, iR])) (up_rowL (by simp only [go_sem, fN, seval, eT, iR])) (up_none (by simp only [go_sem, fN, seval, eT, iR, t900]))).1 he, ?_⟩
    repeat' (first | (with_reducible first | refine W ?_ | refine Wz0 ?_) | ((with_reducible first | refine Wx rfl (fun K hK => ?_) | refine Wp ?_ | refine Wq ?_ | refine Wr ?_); (try simp only [go_sem, fN, seval, eT, iR, dn_ldone, ldone, e0, e1, e4, e5, t4, t5, h2n, dT, dF, nL]); (repeat with_reducible refine Ai ?_); (try (refine hK _ ?_; clear hK K)); (try with_reducible refine iC ?_)))
    refine IWP.opsPanE 1 _ rfl (by kernel_rfl) ?_
    simp only [go_sem, fN, seval, eT, iR, PanAt, List.take_succ_cons, List.take_zero, e0, e1, e4, e5, t4, t5]
    intro envP hE
    refine Wy (lendD_pan (n := 12) (c1 := .st (.int .i64 q.t.kind)) (c2 := .st (.int .i64 q.t.idx)) (c3 := .st (.list (List.map encL q.t.subs))) (x1 := .st (.int .i64 0)) (by decide) ((hE 4 rfl).trans (by simp only [go_sem, fN, seval, eT, iR, e4])) ((hE 5 rfl).trans (by simp only [go_sem, fN, seval, eT, iR, e5])) ?_ ?_)
    · simp only [go_sem, fN, seval, eT, iR, t4]
    · simp only [go_sem, fN, seval, eT, iR, t5]
  · have h2n : tailS s q.i = ⟨#[]⟩ := (ltail_nil o1).2 (by omega)
    rw [if_neg h2]
    repeat' (first | (with_reducible first | refine W ?_ | refine Wz0 ?_) | ((with_reducible first | refine Wx rfl (fun K hK => ?_) | refine Wp ?_ | refine Wq ?_ | refine Wr ?_); (try simp only [go_sem, fN, seval, eT, iR, e0, e1, e4, e5, t4, t5, t21, t23, t900, dT, dF, nL]); (repeat with_reducible refine Ai ?_); (try (refine hK _ ?_; clear hK K)); (try with_reducible refine iC ?_)))
    refine CallNG.mk _ _ _ _ (cloneS_N free (by omega)) ⟨t21, by simp, ?_⟩
    repeat' (first | (with_reducible first | refine W ?_ | refine Wz0 ?_) | ((with_reducible first | refine Wx rfl (fun K hK => ?_) | refine Wp ?_ | refine Wq ?_ | refine Wr ?_); (try simp only [go_sem, fN, seval, eT, iR, e0, e1, e4, e5, t4, t5, t21, t23, t900, hml, rowB, dT, dF, nL]); (repeat with_reducible refine Ai ?_); (try (refine hK _ ?_; clear hK K)); (try with_reducible refine iC ?_)))
    refine ⟨_, _, (hcall _ (up_boxL (by simp only [go_sem, fN, seval, eT, iR])) (up_rowL (by simp only [go_sem, fN, seval, eT, iR])) (up_none (by simp only [go_sem, fN, seval, eT, iR, t900]))).1 he, ?_⟩
    repeat' (first | (with_reducible first | refine W ?_ | refine Wz0 ?_) | ((with_reducible first | refine Wx rfl (fun K hK => ?_) | refine Wp ?_ | refine Wq ?_ | refine Wr ?_); (try simp only [go_sem, fN, seval, eT, iR, dn_ldone, ldone, e0, e1, e4, e5, t4, t5, h2n, dT, dF, nL]); (repeat with_reducible refine Ai ?_); (try (refine hK _ ?_; clear hK K)); (try with_reducible refine iC ?_)))
    refine ⟨_, lparse1_idle _ _ _, ?_⟩
    rw [dn_upS]
    unfold AS.result
    simp only [go_sem, fN, seval, eT, iR, resAll, resOne, tupV, e4, e5]
    rfl

def ir_metaprune_lambda_writer_write : IR :=
  (.seq (.ops [.i 4 (.box 25 (.t 1))]) (.seq (.ops [.f 9 0 4, .l 10 9, .i 11 (.bin .eql (.t 10) (.n 2)), .m 12 11, .mk (some 13) (some (12, true)) (.mov (.t 2)) .no, .mk (some 14) (some (12, true)) (.bin .gtr (.t 13) (.n 0)) .no, .i 15 (.pick (.t 12) (.t 14) (.c (.one (.st (.bool false))))), .m 16 15, .mk (some 17) (some (16, false)) (.fieldAddr 0 (.t 4)) .no, .mk (some 18) (some (16, false)) (.load false 1 (.t 17)) .no, .mk (some 19) (some (16, false)) (.bin .eql (.t 18) (.n 3)) .no, .mk (some 20) (some (16, false)) (.mov (.t 19)) .no, .mk (some 21) (some (20, true)) (.mov (.t 2)) .no, .mk (some 22) (some (20, true)) (.bin .gtr (.t 21) (.n 1)) .no, .mk (some 23) (some (16, false)) (.pick (.t 20) (.t 22) (.c (.one (.st (.bool false))))) .no, .i 24 (.pick (.t 16) (.c (.one (.st (.bool true)))) (.t 23)), .m 6 24]) (.seq (.seq (.ops [.m 25 6]) (.cond (.t 25) (.ops [.m 26 0, .i 27 (.nilCheck (.t 26)), .f 28 0 27, .i 29 (.callS 60 [.t 28, .c (.one (.st (.int .u8 40)))])]) .skip)) (.seq (.seq (.ops [.f 30 0 4, .l 31 30]) (.block 0 (.seq (.ops [.i 41 (.bin .eql (.t 31) (.n 1)), .m 40 41]) (.cond (.t 40) (.seq (.ops [.m 42 0, .i 43 (.nilCheck (.t 42)), .f 44 2 43, .l 45 44, .i 46 (.len false (.t 45)), .i 47 (.bin .sub (.t 46) (.n 1)), .f 48 1 4, .l 49 48, .i 50 (.bin .sub (.t 47) (.t 49)), .m 7 50]) (.seq (.ops [.m 51 7, .i 52 (.bin .geq (.t 51) (.n 0))]) (.cond (.t 52) (.ops [.m 53 0, .i 54 (.nilCheck (.t 53)), .f 55 0 54, .m 56 0, .i 57 (.nilCheck (.t 56)), .f 58 2 57, .l 59 58, .m 60 7, .i 61 (.indexAddr 1 (.t 59) (.t 60)), .l 62 61, .i 63 (.callS 61 [.t 55, .t 62])]) (.ops [.m 64 0, .i 65 (.nilCheck (.t 64)), .f 66 0 65, .m 67 7, .i 68 (.un .neg (.t 67)), .i 69 (.call 58 [.t 68]), .i 70 (.bin .add (.c (.one (.st (.str (ByteArray.mk (#[63])))))) (.t 69)), .i 71 (.callS 61 [.t 66, .t 70])])))) (.seq (.ops [.i 73 (.bin .eql (.t 31) (.n 2)), .m 72 73]) (.cond (.t 72) (.seq (.ops [.m 74 0, .i 75 (.nilCheck (.t 74)), .f 76 2 75, .l 77 76, .i 78 (.len false (.t 77)), .m 79 0, .i 80 (.nilCheck (.t 79)), .f 81 3 80, .l 82 81, .i 83 (.bin .sub (.t 78) (.t 82)), .i 84 (.call 58 [.t 83]), .i 85 (.bin .add (.c (.one (.st (.str (ByteArray.mk (#[120])))))) (.t 84)), .m 8 85]) (.seq (.ops [.m 86 0, .i 87 (.nilCheck (.t 86)), .f 88 0 87, .m 89 8, .i 90 (.bin .add (.c (.one (.st (.str (ByteArray.mk (#[92])))))) (.t 89)), .i 91 (.bin .add (.t 90) (.c (.one (.st (.str (ByteArray.mk (#[46]))))))), .i 92 (.callS 61 [.t 88, .t 91])]) (.seq (.ops [.m 93 0, .m 94 0, .i 95 (.nilCheck (.t 94)), .f 96 2 95, .l 97 96, .m 98 8, .i 99 (.buildFlat [.t 98]), .i 100 (.append true 9 1 16 (.t 97) (.t 99)), .i 101 (.nilCheck (.t 93)), .f 102 2 101, .s 1 102 100]) (.seq (.ops [.m 103 0, .f 104 2 4, .l 105 104, .i 106 (.indexAddr 3 (.t 105) (.n 0)), .L 107 3 106, .i 108 (.callS 52 [.t 103, .t 107, .n 0])]) (.ops [.m 109 0, .m 110 0, .i 111 (.nilCheck (.t 110)), .f 112 2 111, .l 113 112, .m 114 0, .i 115 (.nilCheck (.t 114)), .f 116 2 115, .l 117 116, .i 118 (.len false (.t 117)), .i 119 (.bin .sub (.t 118) (.n 1)), .i 120 (.cutP 1 (.t 113) (.t 119)), .i 121 (.nilCheck (.t 109)), .f 122 2 121, .s 1 122 120]))))) (.seq (.ops [.i 124 (.bin .eql (.t 31) (.n 3)), .m 123 124]) (.cond (.t 123) (.seq (.ops [.m 125 0, .f 126 2 4, .l 127 126, .i 128 (.indexAddr 3 (.t 127) (.n 0)), .L 129 3 128, .i 130 (.callS 52 [.t 125, .t 129, .n 1])]) (.seq (.ops [.m 131 0, .i 132 (.nilCheck (.t 131)), .f 133 0 132, .i 134 (.callS 60 [.t 133, .c (.one (.st (.int .u8 32)))])]) (.ops [.m 135 0, .f 136 2 4, .l 137 136, .i 138 (.indexAddr 3 (.t 137) (.n 1)), .L 139 3 138, .i 140 (.callS 52 [.t 135, .t 139, .n 2])]))) (.seq (.ops [.i 142 (.bin .eql (.t 31) (.n 4)), .m 141 142]) (.cond (.t 141) (.ops [.m 143 0, .i 144 (.nilCheck (.t 143)), .f 145 0 144, .f 146 1 4, .l 147 146, .i 148 (.call 58 [.t 147]), .i 149 (.bin .add (.c (.one (.st (.str (ByteArray.mk (#[99])))))) (.t 148)), .i 150 (.callS 61 [.t 145, .t 149])]) (.ops [.m 32 0, .i 33 (.nilCheck (.t 32)), .f 34 0 33, .f 35 1 4, .l 36 35, .i 37 (.call 58 [.t 36]), .i 38 (.bin .add (.c (.one (.st (.str (ByteArray.mk (#[35])))))) (.t 37)), .i 39 (.callS 61 [.t 34, .t 38])]))))))))))) (.seq (.ops [.m 151 6]) (.cond (.t 151) (.ops [.m 152 0, .i 153 (.nilCheck (.t 152)), .f 154 0 153, .i 155 (.callS 60 [.t 154, .c (.one (.st (.int .u8 41)))])]) .skip))))))
theorem ok_metaprune_lambda_writer_write : OkF Tryd.prog 52 156 [29, 63, 71, 92, 108, 134, 130, 140, 150, 39, 155, 100, 30000120] ir_metaprune_lambda_writer_write [] := .of Tryd.func52 rfl rfl (by kernel_rfl) rfl
def ir_lambda_Show : IR :=
  (.seq (.ops [.i 2 (.box 25 (.t 0)), .i 4 (.mov (.c (.one (.st (.str (ByteArray.mk (#[])))))))]) (.seq (.ops [.m 6 1, .i 7 (.len false (.t 6)), .m 8 1, .i 9 (.callN 29 [.t 8]), .i 10 (.build [.st (.lit (.pointer none)), .full [], .full [], .st (.int .i64 0)] [(3, 1, .t 7), (2, 1, .t 9)]), .i 11 (.box 78 (.t 10)), .m 5 11]) (.seq (.ops [.m 12 5, .L 13 3 2, .i 14 (.callS 52 [.t 12, .t 13, .n 0])]) (.seq (.ops [.m 15 5, .i 16 (.nilCheck (.t 15)), .f 17 0 16, .i 18 (.callS 53 [.t 17]), .m 4 18]) .ret))))
theorem ok_lambda_Show : OkF Tryd.prog 34 19 [20000009, 14, 18] ir_lambda_Show [.t 4] := .of Tryd.func34 rfl rfl (by kernel_rfl) rfl
def ir_lambda_Text : IR :=
  (.seq (.ops [.i 2 (.box 25 (.t 0)), .i 4 (.mov (.c (.one (.st (.str (ByteArray.mk (#[]))))))), .i 5 (.mov (.n 0))]) (.seq (.ops [.m 7 1, .i 8 (.call 27 [.t 7]), .m 6 8]) (.seq (.seq (.ops [.m 9 6, .i 10 (.bin .eql (.t 9) (.n 0))]) (.cond (.t 10) (.ops [.L 11 3 2, .m 12 1, .i 13 (.len false (.t 12)), .i 14 (.call 13 [.t 11, .t 13]), .m 6 14]) .skip)) (.seq (.seq (.ops [.m 15 6, .i 16 (.bin .neq (.t 15) (.n 0))]) (.cond (.t 16) (.seq (.ops [.m 17 6, .i 4 (.mov (.c (.one (.st (.str (ByteArray.mk (#[]))))))), .m 5 17]) .ret) .skip)) (.seq (.ops [.L 18 3 2, .m 19 1, .i 20 (.call 34 [.t 18, .t 19]), .m 4 20, .i 5 (.mov (.n 0))]) .ret)))))
theorem ok_lambda_Text : OkF Tryd.prog 20 21 [] ir_lambda_Text [.t 4, .t 5] := .of Tryd.func20 rfl rfl (by kernel_rfl) rfl

theorem acallsS_hand {P : Program} {f : FuncId} {xs : List AV} {S : AStore} {r : AV} {S' : AStore} (hS' : Clean S → Clean S')
    (h : Clean S → ∀ (C : Ctx) (σ : Sto) (ι : AHnd) (vs : List Value) (w : World), C.n = xs.length → Refs C σ ι (AS.startS xs S) { tmps := vs.toArray, defers := [] } w → All2 (VRep σ S ι) vs xs → Calls P f vs.toArray w fun e w' => ∃ v σ' ι' env', e = .returned v ∧ Refs C σ' ι' ⟨env', S'⟩ { tmps := vs.toArray, defers := [] } w' ∧ VRep σ' S' ι' v r) : ACallsS P f xs S r S' := by
  intro hclean σ w vs ι hglob hfit hown hvs
  have hl := hvs.len
  let C : Ctx := ⟨xs.length, w.heap.size, fun g => ¬ notOf S ι g, σ, w, S, ι, hclean, hglob, [], none, false⟩
  have R : Refs C σ ι (AS.startS xs S) { tmps := vs.toArray, defers := [] } w := by
    refine ⟨by simp [C, hl], fun i hi => ?_, marks_nil, hfit, hown.1, hown.2, fun id b g h hg => .inr (fun hno => hno id b h hg), fun _ _ h => h, fun _ _ _ => rfl, ⟨rfl, rfl, rfl⟩, ⟨Nat.le_refl _, Nat.le_refl _⟩, fun _ _ _ => rfl, Upd.refl _ _⟩
    show VRep σ S ι _ ((xs[i]?).getD (.tup []))
    have hi : i < xs.length := hi
    have hi2 : i < vs.length := by omega
    obtain ⟨b, hb1, hb2⟩ := hvs.get' (List.getElem?_eq_getElem hi2)
    rw [Array.getD_eq_getD_getElem?, hb1]
    simpa [hi2] using hb2
  refine (h hclean C σ ι vs w rfl R hvs).mono fun e w' ⟨v, σ', ι', env', he, R', hv⟩ => ?_
  exact ⟨v, σ', ι', he, hS' hclean, R'.upd, ⟨R'.blk, R'.inj⟩, hv, R'.fit, R'.ext, fun p h1 h2 => R'.old p h1 (fun h => h h2), R'.os, R'.grown.2, fun g h1 h2 => R'.same g h1 (fun h => h h2), fun id b g h1 h2 => R'.base id b g h1 h2⟩
theorem Ghost.ownCell {C : Ctx} {s : AS} {id r : Nat} {e e' : TypeId} {cs : List AC} (j wd : Nat) (hS : s.S id = some (.box e cs)) (hj : cs[j]? = some (.full [])) (hr : s.S r = none) (hne : id ≠ r) :
    Ghost C s ((s.set r (.mrow e' wd [])).set id (.box e (cs.set j (.row r 0)))) := fun a w ⟨σ, ι, R⟩ => by
  have hb := R.blk _ _ hS
  cases hb with
  | @box _ _ g vs k1 k2 k3 k4 k5 =>
    obtain ⟨v, hv, hvr⟩ := k4.get hj
    cases hvr with
    | @full p len xs hs =>
      have hl : len = 0 := by
        obtain ⟨p', cap', e1, _⟩ := srep_slice hs
        cases e1
        rfl
      subst hl
      obtain ⟨hu, R'⟩ := R.fresh (w' := w) hr (.mrow e' wd []) ⟨p, 0, none⟩ (Ext.refl _ _) R.fit (Below.refl _ _) (by simp) (fun S' ι' hu => .mnil rfl rfl)
      have hS' : (s.set r (.mrow e' wd [])).S id = some (.box e cs) := by simp [AS.set, updE_ne _ hne, hS]
      have hι : updE ι r ⟨p, 0, none⟩ id = ι id := updE_ne _ hne _
      have hrr : (s.set r (.mrow e' wd [])).S r = some (.mrow e' wd []) := by simp [AS.set, updE_same]
      obtain ⟨hu2, R2⟩ := R'.turn (w' := w) hS' (.box e (cs.set j (.row r 0))) (updE ι r ⟨p, 0, none⟩ id) (σ' := σ) (fun _ _ h => h) (fun _ _ _ => rfl) R.fit (by simp [ABlk.len]) (fun _ => ⟨rfl, rfl⟩) ⟨rfl, rfl, rfl⟩ (Nat.le_refl _) (fun _ _ _ => rfl) (fun g h => .inl h)
        (fun hu2 => by
          rw [hι] at hu2 ⊢
          refine .box k1 k2 k3 (All2.of_get (by rw [List.length_set]; exact k4.len) fun q u c hu3 hc => ?_) k5
          by_cases e2 : q = j
          · subst e2
            rw [hv] at hu3
            cases hu3
            rw [List.getElem?_set_self (List.getElem?_eq_some_iff.1 hj).1] at hc
            cases hc
            refine .row (b := .mrow e' wd []) (by simp [AS.set, updE, Ne.symm hne]) (Nat.le_refl _) rfl fun _ => ?_
            simp [updE, Ne.symm hne]
          · rw [List.getElem?_set_ne (fun e => e2 e.symm)] at hc
            obtain ⟨u', hu', hr'⟩ := k4.get hc
            rw [hu3] at hu'
            cases hu'
            exact (hr'.mono (fun _ _ h => h) hu).mono (fun _ _ h => h) hu2)
      exact ⟨σ, _, R2⟩

def ir_strings_Builder_WriteString : IR :=
  (.seq (.ops [.i 4 (.mov (.n 0)), .i 5 (.mov (.c (.one (.st (.lit .nilIface)))))]) (.seq (.ops [.m 6 0, .i 7 (.callS 66 [.t 6])]) (.seq (.ops [.m 8 0, .m 9 0, .i 10 (.nilCheck (.t 9)), .f 11 1 10, .l 12 11, .m 13 1, .i 14 (.appS 5 (.t 12) (.t 13)), .i 15 (.nilCheck (.t 8)), .f 16 1 15, .s 1 16 14]) (.seq (.ops [.m 17 1, .i 18 (.len true (.t 17)), .m 4 18, .i 5 (.mov (.c (.one (.st (.lit .nilIface)))))]) .ret))))
theorem ok_strings_Builder_WriteString : OkF Tryd.prog 61 19 [7] ir_strings_Builder_WriteString [.t 4, .t 5] := .of Tryd.func61 rfl rfl (by kernel_rfl) rfl
def ir_strings_Builder_WriteByte : IR :=
  (.seq (.ops [.i 4 (.mov (.c (.one (.st (.lit .nilIface)))))]) (.seq (.ops [.m 5 0, .i 6 (.callS 66 [.t 5])]) (.seq (.ops [.m 7 0, .m 8 0, .i 9 (.nilCheck (.t 8)), .f 10 1 9, .l 11 10, .m 12 1, .i 13 (.buildFlat [.t 12]), .i 14 (.append true 5 1 1 (.t 11) (.t 13)), .i 15 (.nilCheck (.t 7)), .f 16 1 15, .s 1 16 14]) (.seq (.ops [.i 4 (.mov (.c (.one (.st (.lit .nilIface)))))]) .ret))))
theorem ok_strings_Builder_WriteByte : OkF Tryd.prog 60 17 [6, 14] ir_strings_Builder_WriteByte [.t 4] := .of Tryd.func60 rfl rfl (by kernel_rfl) rfl

end Go.Proofs.YtadjhfokddfbiaaDoor
