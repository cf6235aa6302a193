/-
  Unification by the document: the walk.
  Conditions: none.
-/
import Derived.Test.YtnbdpkgndhacfaaBUnify
namespace Go.Proofs.Ytnbdpkgndhacfaa
open Go Go.RowKit
set_option linter.unusedVariables false
set_option linter.unusedSimpArgs false
set_option maxHeartbeats 1000000

/-- All own blocks are forgotten; what stays is known. -/
theorem IWP.fresh {P : Program} {C : Ctx} {mu : List Nat} {x : IR} {Q : AX → AS → Prop} {s : AS} (h1000 : ∀ i, 1000 ≤ i → s.S i = none) (h : ∀ env' : Nat → AV, (∀ i v, s.env i = .one (.st v) → env' i = .one (.st v)) → IWP P C mu x Q ⟨env', noS⟩) : IWP P C mu x Q s := by
  refine IWP.ghost (Ghost.low (s := s) fun i b hi hb => by rw [h1000 i hi] at hb; cases hb) ?_
  have e : lowS s.S = noS := by
    funext i
    show (if i < 1000 then none else s.S i) = none
    split
    · rfl
    · exact h1000 i (by omega)
  rw [e]
  exact h _ fun i v hv => by rw [hv]; rfl
/-- What must hold between two pieces of code. -/
theorem IWP.mid {P : Program} {C : Ctx} {mu : List Nat} {x y : IR} {Q : AX → AS → Prop} {s : AS} (M : AS → Prop) (h1 : IWP P C mu x (fun e s => e = .normal ∧ M s) s) (h2 : ∀ s, M s → IWP P C mu y Q s) : IWP P C mu (x.seq y) Q s :=
  IWP.seq (h1.mono fun e s ⟨he, hm⟩ => by subst he; exact seqQ_normal (h2 s hm))
/-- What is shown once, and used where the code goes on behind two ways. -/
theorem once {R G : Prop} (f : R → G) (h : R) : G := f h
theorem uends_inv {m : Nat} {s : List Bd} {p : Pr} {l : List Pr} {r : List Bd × Int} (h : UEnds m s (p :: l) r) : (∃ e, stepU s p = .err e ∧ r = ([], e)) ∨ ∃ s' ps n, stepU s p = .go s' ps ∧ n < m ∧ UEnds n s' (ps ++ l) r := by
  cases h with
  | err h => exact .inl ⟨_, h, rfl⟩
  | go h1 h2 => exact .inr ⟨_, _, _, h1, by omega, h2⟩
/-- A term that comes of the state. -/
structure TmOk (U : List ByteArray) (s : List Bd) (t : Tm) : Prop where
  chk : t.chk = 0
  siz : t.size ≤ 2000
  free : NoDom s t
  inU : ∀ y, occ y t = true → y ∈ U
abbrev boxT (t : Tm) : ABlk := .box 42 [.st (.str t.name), .st (.list (t.args.map encT))]
/-- What stands behind the turn: a variable and a term for it; or two knots. -/
def Turned (U : List ByteArray) (s : List Bd) (p : Pr) (u t : Tm) : Prop := TmOk U s u ∧ TmOk U s t ∧
  ((isVar u.name = true ∧ stepU s p = bindV s u.name t) ∨ (isVar u.name = false ∧ stepU s p = if u.name = t.name ∧ u.args.length = t.args.length then .go s (u.args.zip t.args) else .err 5))
theorem turned_a {U : List ByteArray} {s : List Bd} {p : Pr} (ha : TmOk U s (p.1.on s)) (hb : TmOk U s (p.2.on s)) (hne : ¬ (isVar (p.1.on s).name = true ∧ (p.1.on s).name = (p.2.on s).name)) (hv : isVar (p.1.on s).name = true ∨ isVar (p.2.on s).name = false) : Turned U s p (p.1.on s) (p.2.on s) := by
  have h0 : ¬ (2000 < (p.1.on s).size ∨ 2000 < (p.2.on s).size) := by have := ha.siz; have := hb.siz; omega
  refine ⟨ha, hb, ?_⟩
  cases h1 : isVar (p.1.on s).name with
  | true =>
    refine .inl ⟨rfl, ?_⟩
    unfold stepU
    rw [if_neg h0, if_neg hne, if_pos h1]
  | false =>
    have h2 : isVar (p.2.on s).name = false := hv.resolve_left (by rw [h1]; simp)
    refine .inr ⟨rfl, ?_⟩
    unfold stepU
    rw [if_neg h0, if_neg hne, if_neg (by rw [h1]; simp), if_neg (by rw [h2]; simp)]
theorem turned_b {U : List ByteArray} {s : List Bd} {p : Pr} (ha : TmOk U s (p.1.on s)) (hb : TmOk U s (p.2.on s)) (h1 : isVar (p.1.on s).name = false) (h2 : isVar (p.2.on s).name = true) : Turned U s p (p.2.on s) (p.1.on s) := by
  have h0 : ¬ (2000 < (p.1.on s).size ∨ 2000 < (p.2.on s).size) := by have := ha.siz; have := hb.siz; omega
  refine ⟨hb, ha, .inl ⟨h2, ?_⟩⟩
  unfold stepU
  rw [if_neg h0, if_neg (by rw [h1]; simp), if_neg (by rw [h1]; simp), if_pos h2]

theorem unifyOf_a (U : List ByteArray) (hU : U.length ≤ 20000) (C0 : Nat) (hC0 : C0 ≤ 100000000000) (n : Nat) (l : List Pr) (r : List Bd × Int) (hr : UEnds n [] l r) (hg : UGood U C0 [] l) : ACalls Try.prog 14 [aPrs l] (.tup [aBds r.1, aInt r.2]) := by
  refine ac_R_UnifyOf (Nat.le_of_ble_eq_true rfl) fun C hC => ?_
  unfold ir_R_UnifyOf
  repeat' (first | (with_reducible first | refine Wa ?_ | refine Wb ?_ | refine Wc ?_ | refine Wd ?_ | refine We ?_ | refine Wf ?_ | refine Wg ?_ | refine Wh ?_ | refine Wi ?_ | refine Wj ?_ | refine Wk (by decide) ?_ | refine Wl ?_ | refine Wm ?_ | refine Wn ?_) | ((with_reducible first | refine Wo (fun K hK => ?_) | refine Wp ?_ | refine Wq ?_ | refine Wr ?_); (try simp only [go_sem, List.forall_mem_nil, ↓guard_ite, ↓pick_ite, seval, encT_eq, inR_i64, decide_eq_true_eq, decide_eq_false_iff_not, Int.ofNat_lt]); (repeat with_reducible refine And.intro (by first | omega | with_reducible exact lens_encT | with_reducible exact lens_encL | with_reducible exact lens_encB | with_reducible exact lens_encP | (simp; done) | (simp only [List.length_take, List.length_map, List.length_append, maxLen_eq]; omega)) ?_); (try (with_reducible refine hK _ ?_; clear hK K)); (try with_reducible refine ite_conj ?_)))
  refine IWP.loop (fun m x => ∃ s l, UEnds m s l r ∧ UGood U C0 s l ∧ outV x.S (x.env 0) = some (aPrs l) ∧ outV x.S (x.env 4) = some (aBds s) ∧ ∀ i, 1000 ≤ i → x.S i = none) n ⟨[], l, hr, hg, rfl, rfl, fun _ _ => rfl⟩ ?_
  rintro m ⟨env0, S0⟩ ⟨s, l, hr, hg, o0, o4, h1000⟩
  refine IWP.ghost (Ghost.settle 0 o0) ?_
  refine IWP.ghost (Ghost.settle 4 (v := aBds s) o4) ?_
  refine IWP.fresh h1000 fun env henv => ?_
  have e0 : env 0 = aPrs l := henv 0 _ rfl
  have e4 : env 4 = aBds s := henv 4 _ rfl
  clear henv o0 o4 h1000 env0 S0
  cases l with
  | nil =>
    cases hr
    repeat' (first | (with_reducible first | refine Wa ?_ | refine Wb ?_ | refine Wc ?_ | refine Wd ?_ | refine We ?_ | refine Wf ?_ | refine Wg ?_ | refine Wh ?_ | refine Wi ?_ | refine Wj ?_ | refine Wk (by decide) ?_ | refine Wl ?_ | refine Wm ?_ | refine Wn ?_) | ((with_reducible first | refine Wo (fun K hK => ?_) | refine Wp ?_ | refine Wq ?_ | refine Wr ?_); (try simp only [go_sem, List.forall_mem_nil, ↓guard_ite, ↓pick_ite, seval, encT_eq, inR_i64, e0, e4, decide_eq_true_eq, decide_eq_false_iff_not, Int.ofNat_lt]); (repeat with_reducible refine And.intro (by first | omega | with_reducible exact lens_encT | with_reducible exact lens_encL | with_reducible exact lens_encB | with_reducible exact lens_encP | (simp; done) | (simp only [List.length_take, List.length_map, List.length_append, maxLen_eq]; omega)) ?_); (try (with_reducible refine hK _ ?_; clear hK K)); (try with_reducible refine ite_conj ?_)))
    simp only [go_sem, List.forall_mem_nil, ↓guard_ite, ↓pick_ite, seval, FinQ, AS.result, resAll, resOne, tupV]
  | cons p l =>
    have hinv := uends_inv hr
    obtain ⟨hc1, hc2⟩ := hg.lchk p (by simp)
    have hUp := hg.lU p (by simp)
    obtain ⟨hz1, hz2⟩ := hg.lsiz p (by simp)
    obtain ⟨a1, a2, a3⟩ := onU hg hc1 fun y => (hUp y).1
    obtain ⟨b1, b2, b3⟩ := onU hg hc2 fun y => (hUp y).2
    have hl0 : (0 : Int) < ((l.length + 1 : Nat) : Int) := by omega
    by_cases ha : (p.1.on s).size ≤ 2000
    case neg =>
      have he : onTo s p.1 = (Tm.nil, false) := by unfold onTo; rw [if_neg ha]
      have hst : stepU s p = .err 8 := by unfold stepU; rw [if_pos (by omega)]
      repeat' (first | (with_reducible first | refine Wa ?_ | refine Wb ?_ | refine Wc ?_ | refine Wd ?_ | refine We ?_ | refine Wf ?_ | refine Wg ?_ | refine Wh ?_ | refine Wi ?_ | refine Wj ?_ | refine Wk (by decide) ?_ | refine Wl ?_ | refine Wm ?_ | refine Wn ?_) | refine CallG.mk _ (onRef_a s p.1 (by omega)) ?_ | ((with_reducible first | refine Wo (fun K hK => ?_) | refine Wp ?_ | refine Wq ?_ | refine Wr ?_); (try simp only [go_sem, List.forall_mem_nil, ↓guard_ite, ↓pick_ite, seval, encT_eq, inR_i64, e0, e4, hl0, encP, he, decide_eq_true_eq, decide_eq_false_iff_not, Int.ofNat_lt]); (repeat with_reducible refine And.intro (by first | omega | with_reducible exact lens_encT | with_reducible exact lens_encL | with_reducible exact lens_encB | with_reducible exact lens_encP | (simp; done) | (simp only [List.length_take, List.length_map, List.length_append, maxLen_eq]; omega)) ?_); (try (with_reducible refine hK _ ?_; clear hK K)); (try with_reducible refine ite_conj ?_)))
      simp only [go_sem, List.forall_mem_nil, ↓guard_ite, ↓pick_ite, seval, FinQ, AS.result, resAll, resOne, tupV]
      rcases hinv with ⟨e, h1, rfl⟩ | ⟨s', ps, q, h1, _⟩
      · rw [hst] at h1
        cases h1
        rfl
      · rw [hst] at h1
        cases h1
    by_cases hb : (p.2.on s).size ≤ 2000
    case neg =>
      have he : onTo s p.1 = (p.1.on s, true) := by unfold onTo; rw [if_pos ha]
      have he2 : onTo s p.2 = (Tm.nil, false) := by unfold onTo; rw [if_neg hb]
      have hst : stepU s p = .err 8 := by unfold stepU; rw [if_pos (by omega)]
      repeat' (first | (with_reducible first | refine Wa ?_ | refine Wb ?_ | refine Wc ?_ | refine Wd ?_ | refine We ?_ | refine Wf ?_ | refine Wg ?_ | refine Wh ?_ | refine Wi ?_ | refine Wj ?_ | refine Wk (by decide) ?_ | refine Wl ?_ | refine Wm ?_ | refine Wn ?_) | refine CallG.mk _ (onRef_a s p.1 (by omega)) ?_ | refine CallG.mk _ (onRef_a s p.2 (by omega)) ?_ | ((with_reducible first | refine Wo (fun K hK => ?_) | refine Wp ?_ | refine Wq ?_ | refine Wr ?_); (try simp only [go_sem, List.forall_mem_nil, ↓guard_ite, ↓pick_ite, seval, encT_eq, inR_i64, e0, e4, hl0, encP, he, he2, decide_eq_true_eq, decide_eq_false_iff_not, Int.ofNat_lt]); (repeat with_reducible refine And.intro (by first | omega | with_reducible exact lens_encT | with_reducible exact lens_encL | with_reducible exact lens_encB | with_reducible exact lens_encP | (simp; done) | (simp only [List.length_take, List.length_map, List.length_append, maxLen_eq]; omega)) ?_); (try (with_reducible refine hK _ ?_; clear hK K)); (try with_reducible refine ite_conj ?_)))
      simp only [go_sem, List.forall_mem_nil, ↓guard_ite, ↓pick_ite, seval, FinQ, AS.result, resAll, resOne, tupV]
      rcases hinv with ⟨e, h1, rfl⟩ | ⟨s', ps, q, h1, _⟩
      · rw [hst] at h1
        cases h1
        rfl
      · rw [hst] at h1
        cases h1
    have he : onTo s p.1 = (p.1.on s, true) := by unfold onTo; rw [if_pos ha]
    have he2 : onTo s p.2 = (p.2.on s, true) := by unfold onTo; rw [if_pos hb]
    have htk : List.take l.length (List.map encP l) = l.map encP := List.take_of_length_le (by simp)
    have hta : TmOk U s (p.1.on s) := ⟨a1, ha, a2, a3⟩
    have htb : TmOk U s (p.2.on s) := ⟨b1, hb, b2, b3⟩
    repeat' (first | (with_reducible first | refine Wa ?_ | refine Wb ?_ | refine Wc ?_ | refine Wd ?_ | refine We ?_ | refine Wf ?_ | refine Wg ?_ | refine Wh ?_ | refine Wi ?_ | refine Wj ?_ | refine Wk (by decide) ?_ | refine Wl ?_ | refine Wm ?_ | refine Wn ?_) | refine CallG.mk _ (onRef_a s p.1 (by omega)) ?_ | refine CallG.mk _ (onRef_a s p.2 (by omega)) ?_ | ((with_reducible first | refine Wo (fun K hK => ?_) | refine Wp ?_ | refine Wq ?_ | refine Wr ?_); (try simp only [go_sem, List.forall_mem_nil, ↓guard_ite, ↓pick_ite, seval, encT_eq, inR_i64, e0, e4, hl0, encP, he, he2, decide_eq_true_eq, decide_eq_false_iff_not, Int.ofNat_lt]); (repeat with_reducible refine And.intro (by first | omega | with_reducible exact lens_encT | with_reducible exact lens_encL | with_reducible exact lens_encB | with_reducible exact lens_encP | (simp; done) | (simp only [List.length_take, List.length_map, List.length_append, maxLen_eq]; omega)) ?_); (try (with_reducible refine hK _ ?_; clear hK K)); (try with_reducible refine ite_conj ?_)))
    refine ⟨_, isVar_a _, ?_⟩
    by_cases hsame : isVar (p.1.on s).name = true ∧ (p.1.on s).name = (p.2.on s).name
    · have hst : stepU s p = .go s [] := by unfold stepU; rw [if_neg (by omega), if_pos hsame]
      have hsv : isVar (p.2.on s).name = true := by rw [← hsame.2]; exact hsame.1
      repeat' (first | (with_reducible first | refine Wa ?_ | refine Wb ?_ | refine Wc ?_ | refine Wd ?_ | refine We ?_ | refine Wf ?_ | refine Wg ?_ | refine Wh ?_ | refine Wi ?_ | refine Wj ?_ | refine Wk (by decide) ?_ | refine Wl ?_ | refine Wm ?_ | refine Wn ?_) | ((with_reducible first | refine Wo (fun K hK => ?_) | refine Wp ?_ | refine Wq ?_ | refine Wr ?_); (try simp only [go_sem, List.forall_mem_nil, ↓guard_ite, ↓pick_ite, seval, encT_eq, inR_i64, hsame.1, hsv, hsame.2, e0, e4, decide_eq_true_eq, decide_eq_false_iff_not, Int.ofNat_lt]); (repeat with_reducible refine And.intro (by first | omega | with_reducible exact lens_encT | with_reducible exact lens_encL | with_reducible exact lens_encB | with_reducible exact lens_encP | (simp; done) | (simp only [List.length_take, List.length_map, List.length_append, maxLen_eq]; omega)) ?_); (try (with_reducible refine hK _ ?_; clear hK K)); (try with_reducible refine ite_conj ?_)))
      rcases hinv with ⟨e, h1, _⟩ | ⟨s', ps, q, h1, h2, h3⟩
      · rw [hst] at h1
        cases h1
      rw [hst] at h1
      cases h1
      refine then_normal ⟨q, h2, s, l, h3, hg.tail, ?_, ?_, fun i hi => ?_⟩
      · simp only [go_sem, List.forall_mem_nil, ↓guard_ite, ↓pick_ite, seval, encT_eq, inR_i64, htk]
      · simp only [go_sem, List.forall_mem_nil, ↓guard_ite, ↓pick_ite, seval, encT_eq, inR_i64, e4]
      · have i5 : ¬ i = 5 := by omega
        have i7 : ¬ i = 7 := by omega
        simp only [go_sem, List.forall_mem_nil, ↓guard_ite, ↓pick_ite, seval, encT_eq, inR_i64, i5, i7]
    apply once
    · intro rest
      cases hv : isVar (p.1.on s).name with
      | true =>
        have hne : ¬ (p.1.on s).name = (p.2.on s).name := fun h => hsame ⟨hv, h⟩
        repeat' (first | (with_reducible first | refine Wa ?_ | refine Wb ?_ | refine Wc ?_ | refine Wd ?_ | refine We ?_ | refine Wf ?_ | refine Wg ?_ | refine Wh ?_ | refine Wi ?_ | refine Wj ?_ | refine Wk (by decide) ?_ | refine Wl ?_ | refine Wm ?_ | refine Wn ?_) | ((with_reducible first | refine Wo (fun K hK => ?_) | refine Wq ?_ | refine Wr ?_); (try simp only [go_sem, List.forall_mem_nil, ↓guard_ite, ↓pick_ite, seval, encT_eq, inR_i64, hv, hne]); (repeat with_reducible refine And.intro (by first | omega | with_reducible exact lens_encT | with_reducible exact lens_encL | with_reducible exact lens_encB | with_reducible exact lens_encP | (simp; done) | (simp only [List.length_take, List.length_map, List.length_append, maxLen_eq]; omega)) ?_); (try (with_reducible refine hK _ ?_; skip))))
        with_reducible refine Wp ?_
        simp only [go_sem, List.forall_mem_nil, ↓guard_ite, ↓pick_ite, seval, true_implies, false_implies, implies_true, decide_eq_true_eq, decide_eq_false_iff_not, Int.ofNat_lt]
        (try with_reducible refine ite_conj ?_)
        refine Wd ?_
        refine Wb ?_
        refine IWP.mid (fun x => ∃ u t, Turned U s p u t ∧ x.env 0 = aPrs l ∧ x.env 4 = aBds s ∧ x.env 5 = .one (.ptr 5 1 0 0) ∧ x.env 7 = .one (.ptr 7 1 0 0) ∧ x.S 5 = some (boxT u) ∧ x.S 7 = some (boxT t) ∧ ∀ i, i ≠ 5 → i ≠ 7 → x.S i = none) ?_ rest
        repeat' (first | (with_reducible first | refine Wa ?_ | refine Wb ?_ | refine Wc ?_ | refine Wd ?_ | refine We ?_ | refine Wf ?_ | refine Wg ?_ | refine Wh ?_ | refine Wi ?_ | refine Wj ?_ | refine Wk (by decide) ?_ | refine Wl ?_ | refine Wm ?_ | refine Wn ?_) | ((with_reducible first | refine Wo (fun K hK => ?_) | refine Wp ?_ | refine Wq ?_ | refine Wr ?_); (try simp only [go_sem, List.forall_mem_nil, ↓guard_ite, ↓pick_ite, seval, encT_eq, inR_i64, decide_eq_true_eq, decide_eq_false_iff_not, Int.ofNat_lt]); (repeat with_reducible refine And.intro (by first | omega | with_reducible exact lens_encT | with_reducible exact lens_encL | with_reducible exact lens_encB | with_reducible exact lens_encP | (simp; done) | (simp only [List.length_take, List.length_map, List.length_append, maxLen_eq]; omega)) ?_); (try (with_reducible refine hK _ ?_; skip)); (try with_reducible refine ite_conj ?_)))
        refine ⟨_, isVar_a _, ?_⟩
        repeat' (first | (with_reducible first | refine Wa ?_ | refine Wb ?_ | refine Wc ?_ | refine Wd ?_ | refine We ?_ | refine Wf ?_ | refine Wg ?_ | refine Wh ?_ | refine Wi ?_ | refine Wj ?_ | refine Wk (by decide) ?_ | refine Wl ?_ | refine Wm ?_ | refine Wn ?_) | ((with_reducible first | refine Wo (fun K hK => ?_) | refine Wp ?_ | refine Wq ?_ | refine Wr ?_); (try simp only [go_sem, List.forall_mem_nil, ↓guard_ite, ↓pick_ite, seval, encT_eq, inR_i64, hv, decide_eq_true_eq, decide_eq_false_iff_not, Int.ofNat_lt]); (repeat with_reducible refine And.intro (by first | omega | with_reducible exact lens_encT | with_reducible exact lens_encL | with_reducible exact lens_encB | with_reducible exact lens_encP | (simp; done) | (simp only [List.length_take, List.length_map, List.length_append, maxLen_eq]; omega)) ?_); (try (with_reducible refine hK _ ?_; skip)); (try with_reducible refine ite_conj ?_)))
        refine ⟨rfl, _, _, turned_a hta htb hsame (.inl hv), ?_⟩
        simp only [go_sem, List.forall_mem_nil, ↓guard_ite, ↓pick_ite, seval, encT_eq, inR_i64, e0, e4, htk]
        exact fun i h5 h7 => by (simp only [go_sem, List.forall_mem_nil, ↓guard_ite, ↓pick_ite, seval, encT_eq, inR_i64, h5, h7])
      | false =>
        repeat' (first | (with_reducible first | refine Wa ?_ | refine Wb ?_ | refine Wc ?_ | refine Wd ?_ | refine We ?_ | refine Wf ?_ | refine Wg ?_ | refine Wh ?_ | refine Wi ?_ | refine Wj ?_ | refine Wk (by decide) ?_ | refine Wl ?_ | refine Wm ?_ | refine Wn ?_) | ((with_reducible first | refine Wo (fun K hK => ?_) | refine Wq ?_ | refine Wr ?_); (try simp only [go_sem, List.forall_mem_nil, ↓guard_ite, ↓pick_ite, seval, encT_eq, inR_i64, hv]); (repeat with_reducible refine And.intro (by first | omega | with_reducible exact lens_encT | with_reducible exact lens_encL | with_reducible exact lens_encB | with_reducible exact lens_encP | (simp; done) | (simp only [List.length_take, List.length_map, List.length_append, maxLen_eq]; omega)) ?_); (try (with_reducible refine hK _ ?_; skip))))
        with_reducible refine Wp ?_
        simp only [go_sem, List.forall_mem_nil, ↓guard_ite, ↓pick_ite, seval, true_implies, false_implies, implies_true, decide_eq_true_eq, decide_eq_false_iff_not, Int.ofNat_lt]
        (try with_reducible refine ite_conj ?_)
        refine Wd ?_
        refine Wb ?_
        refine IWP.mid (fun x => ∃ u t, Turned U s p u t ∧ x.env 0 = aPrs l ∧ x.env 4 = aBds s ∧ x.env 5 = .one (.ptr 5 1 0 0) ∧ x.env 7 = .one (.ptr 7 1 0 0) ∧ x.S 5 = some (boxT u) ∧ x.S 7 = some (boxT t) ∧ ∀ i, i ≠ 5 → i ≠ 7 → x.S i = none) ?_ rest
        repeat' (first | (with_reducible first | refine Wa ?_ | refine Wb ?_ | refine Wc ?_ | refine Wd ?_ | refine We ?_ | refine Wf ?_ | refine Wg ?_ | refine Wh ?_ | refine Wi ?_ | refine Wj ?_ | refine Wk (by decide) ?_ | refine Wl ?_ | refine Wm ?_ | refine Wn ?_) | ((with_reducible first | refine Wo (fun K hK => ?_) | refine Wp ?_ | refine Wq ?_ | refine Wr ?_); (try simp only [go_sem, List.forall_mem_nil, ↓guard_ite, ↓pick_ite, seval, encT_eq, inR_i64, decide_eq_true_eq, decide_eq_false_iff_not, Int.ofNat_lt]); (repeat with_reducible refine And.intro (by first | omega | with_reducible exact lens_encT | with_reducible exact lens_encL | with_reducible exact lens_encB | with_reducible exact lens_encP | (simp; done) | (simp only [List.length_take, List.length_map, List.length_append, maxLen_eq]; omega)) ?_); (try (with_reducible refine hK _ ?_; skip)); (try with_reducible refine ite_conj ?_)))
        refine ⟨_, isVar_a _, ?_⟩
        repeat' (first | (with_reducible first | refine Wa ?_ | refine Wb ?_ | refine Wc ?_ | refine Wd ?_ | refine We ?_ | refine Wf ?_ | refine Wg ?_ | refine Wh ?_ | refine Wi ?_ | refine Wj ?_ | refine Wk (by decide) ?_ | refine Wl ?_ | refine Wm ?_ | refine Wn ?_) | ((with_reducible first | refine Wo (fun K hK => ?_) | refine Wp ?_ | refine Wq ?_ | refine Wr ?_); (try simp only [go_sem, List.forall_mem_nil, ↓guard_ite, ↓pick_ite, seval, encT_eq, inR_i64, hv, decide_eq_true_eq, decide_eq_false_iff_not, Int.ofNat_lt]); (repeat with_reducible refine And.intro (by first | omega | with_reducible exact lens_encT | with_reducible exact lens_encL | with_reducible exact lens_encB | with_reducible exact lens_encP | (simp; done) | (simp only [List.length_take, List.length_map, List.length_append, maxLen_eq]; omega)) ?_); (try (with_reducible refine hK _ ?_; skip)); (try with_reducible refine ite_conj ?_)))
        refine ⟨_, isVar_a _, ?_⟩
        cases hw : isVar (p.2.on s).name with
        | true =>
          repeat' (first | (with_reducible first | refine Wa ?_ | refine Wb ?_ | refine Wc ?_ | refine Wd ?_ | refine We ?_ | refine Wf ?_ | refine Wg ?_ | refine Wh ?_ | refine Wi ?_ | refine Wj ?_ | refine Wk (by decide) ?_ | refine Wl ?_ | refine Wm ?_ | refine Wn ?_) | ((with_reducible first | refine Wo (fun K hK => ?_) | refine Wp ?_ | refine Wq ?_ | refine Wr ?_); (try simp only [go_sem, List.forall_mem_nil, ↓guard_ite, ↓pick_ite, seval, encT_eq, inR_i64, hv, hw, decide_eq_true_eq, decide_eq_false_iff_not, Int.ofNat_lt]); (repeat with_reducible refine And.intro (by first | omega | with_reducible exact lens_encT | with_reducible exact lens_encL | with_reducible exact lens_encB | with_reducible exact lens_encP | (simp; done) | (simp only [List.length_take, List.length_map, List.length_append, maxLen_eq]; omega)) ?_); (try (with_reducible refine hK _ ?_; skip)); (try with_reducible refine ite_conj ?_)))
          refine ⟨rfl, _, _, turned_b hta htb hv hw, ?_⟩
          simp only [go_sem, List.forall_mem_nil, ↓guard_ite, ↓pick_ite, seval, encT_eq, inR_i64, e0, e4, htk]
          exact fun i h5 h7 => by (simp only [go_sem, List.forall_mem_nil, ↓guard_ite, ↓pick_ite, seval, encT_eq, inR_i64, h5, h7])
        | false =>
          repeat' (first | (with_reducible first | refine Wa ?_ | refine Wb ?_ | refine Wc ?_ | refine Wd ?_ | refine We ?_ | refine Wf ?_ | refine Wg ?_ | refine Wh ?_ | refine Wi ?_ | refine Wj ?_ | refine Wk (by decide) ?_ | refine Wl ?_ | refine Wm ?_ | refine Wn ?_) | ((with_reducible first | refine Wo (fun K hK => ?_) | refine Wp ?_ | refine Wq ?_ | refine Wr ?_); (try simp only [go_sem, List.forall_mem_nil, ↓guard_ite, ↓pick_ite, seval, encT_eq, inR_i64, hv, hw, decide_eq_true_eq, decide_eq_false_iff_not, Int.ofNat_lt]); (repeat with_reducible refine And.intro (by first | omega | with_reducible exact lens_encT | with_reducible exact lens_encL | with_reducible exact lens_encB | with_reducible exact lens_encP | (simp; done) | (simp only [List.length_take, List.length_map, List.length_append, maxLen_eq]; omega)) ?_); (try (with_reducible refine hK _ ?_; skip)); (try with_reducible refine ite_conj ?_)))
          refine ⟨rfl, _, _, turned_a hta htb hsame (.inr hw), ?_⟩
          simp only [go_sem, List.forall_mem_nil, ↓guard_ite, ↓pick_ite, seval, encT_eq, inR_i64, e0, e4, htk]
          exact fun i h5 h7 => by (simp only [go_sem, List.forall_mem_nil, ↓guard_ite, ↓pick_ite, seval, encT_eq, inR_i64, h5, h7])
    rintro ⟨env, S⟩ ⟨u, t, ⟨hu, ht, hst⟩, e0, e4, e5, e7, s5, s7, sno⟩
    simp only at e0 e4 e5 e7 s5 s7 sno
    rcases hst with ⟨hv, hst⟩ | ⟨hv, hst⟩
    · -- a variable
      rw [hst] at hinv
      repeat' (first | (with_reducible first | refine Wa ?_ | refine Wb ?_ | refine Wc ?_ | refine Wd ?_ | refine We ?_ | refine Wf ?_ | refine Wg ?_ | refine Wh ?_ | refine Wi ?_ | refine Wj ?_ | refine Wk (by decide) ?_ | refine Wl ?_ | refine Wm ?_ | refine Wn ?_) | refine CallG.mk _ (isVar_a _) ?_ | refine CallG.mk _ (varsOf_a t (by have := ht.siz; omega)) ?_ | ((with_reducible first | refine Wo (fun K hK => ?_) | refine Wp ?_ | refine Wq ?_ | refine Wr ?_); (try simp only [go_sem, List.forall_mem_nil, ↓guard_ite, ↓pick_ite, seval, encT_eq, inR_i64, e5, s5, hv, e0, e4, e7, s7, decide_eq_true_eq, decide_eq_false_iff_not, Int.ofNat_lt]); (repeat with_reducible refine And.intro (by first | omega | with_reducible exact lens_encT | with_reducible exact lens_encL | with_reducible exact lens_encB | with_reducible exact lens_encP | (simp; done) | (simp only [List.length_take, List.length_map, List.length_append, maxLen_eq]; omega)) ?_); (try (with_reducible refine hK _ ?_; clear hK K)); (try with_reducible refine ite_conj ?_)))
      refine ⟨_, in_a u.name t.varsOf, ?_⟩
      have hio := isIn_varsOf hv t
      cases ho : occ u.name t with
      | true =>
        have hbv : bindV s u.name t = .err 6 := by unfold bindV; rw [if_pos ho]
        rw [ho] at hio
        repeat' (first | (with_reducible first | refine Wa ?_ | refine Wb ?_ | refine Wc ?_ | refine Wd ?_ | refine We ?_ | refine Wf ?_ | refine Wg ?_ | refine Wh ?_ | refine Wi ?_ | refine Wj ?_ | refine Wk (by decide) ?_ | refine Wl ?_ | refine Wm ?_ | refine Wn ?_) | ((with_reducible first | refine Wo (fun K hK => ?_) | refine Wp ?_ | refine Wq ?_ | refine Wr ?_); (try simp only [go_sem, List.forall_mem_nil, ↓guard_ite, ↓pick_ite, seval, encT_eq, inR_i64, hio, decide_eq_true_eq, decide_eq_false_iff_not, Int.ofNat_lt]); (repeat with_reducible refine And.intro (by first | omega | with_reducible exact lens_encT | with_reducible exact lens_encL | with_reducible exact lens_encB | with_reducible exact lens_encP | (simp; done) | (simp only [List.length_take, List.length_map, List.length_append, maxLen_eq]; omega)) ?_); (try (with_reducible refine hK _ ?_; clear hK K)); (try with_reducible refine ite_conj ?_)))
        simp only [go_sem, List.forall_mem_nil, ↓guard_ite, ↓pick_ite, seval, FinQ, AS.result, resAll, resOne, tupV]
        rcases hinv with ⟨e, h1, rfl⟩ | ⟨s', ps, q, h1, _⟩
        · rw [hbv] at h1
          cases h1
          rfl
        · rw [hbv] at h1
          cases h1
      | false =>
        rw [ho] at hio
        repeat' (first | (with_reducible first | refine Wa ?_ | refine Wb ?_ | refine Wc ?_ | refine Wd ?_ | refine We ?_ | refine Wf ?_ | refine Wg ?_ | refine Wh ?_ | refine Wi ?_ | refine Wj ?_ | refine Wk (by decide) ?_ | refine Wl ?_ | refine Wm ?_ | refine Wn ?_) | ((with_reducible first | refine Wo (fun K hK => ?_) | refine Wp ?_ | refine Wq ?_ | refine Wr ?_); (try simp only [go_sem, List.forall_mem_nil, ↓guard_ite, ↓pick_ite, seval, encT_eq, inR_i64, hio, e0, e4, e5, e7, s5, s7, decide_eq_true_eq, decide_eq_false_iff_not, Int.ofNat_lt]); (repeat with_reducible refine And.intro (by first | omega | with_reducible exact lens_encT | with_reducible exact lens_encL | with_reducible exact lens_encB | with_reducible exact lens_encP | (simp; done) | (simp only [List.length_take, List.length_map, List.length_append, maxLen_eq]; omega)) ?_); (try (with_reducible refine hK _ ?_; clear hK K)); (try with_reducible refine ite_conj ?_)))
        have hsl : s.length ≤ 20000 := Nat.le_trans hg.len hU
        have s900 : S 900 = none := sno 900 (by omega) (by omega)
        have s11 : S 11 = none := sno 11 (by omega) (by omega)
        refine IWP.ghost (Ghost.own 9 900 46 3 (xs := []) rfl s900 (by simp) (by rw [hC]; decide)) ?_
        refine IWP.loopD [11] (fun m x => ∃ i, i ≤ s.length ∧ m = s.length - i ∧ (∀ c ∈ s.take i, (c.2.on [(u.name, t)]).size ≤ 2000) ∧ x.env 0 = aPrs l ∧ x.env 4 = aBds s ∧ x.env 8 = .one (.full [encB (u.name, t)]) ∧ x.env 9 = .one (.row 900 i) ∧ x.env 10 = aInt i ∧ x.S 900 = some (.arow 46 3 (((s.take i).map fun b => (b.1, b.2.on [(u.name, t)])).map encB)) ∧ x.S 11 = none ∧ ∀ i, 1000 ≤ i → x.S i = none)
          s.length ⟨0, Nat.zero_le _, rfl, by simp, ?_⟩ ?_
        · simp only [go_sem, List.forall_mem_nil, ↓guard_ite, ↓pick_ite, seval, encT_eq, inR_i64, e0, e4, encB]
          refine ⟨s11, fun i hi => ?_⟩
          have i9 : ¬ i = 900 := by omega
          simp only [go_sem, List.forall_mem_nil, ↓guard_ite, ↓pick_ite, seval, encT_eq, inR_i64, i9]
          exact sno i (by omega) (by omega)
        rintro mm ⟨env2, S2⟩ ⟨i, hi, rfl, h20, e0, e4, e8, e9, e10, s900, s11, sno⟩
        simp only at e0 e4 e8 e9 e10 s900 s11 sno
        have hli : (s.take i).length = i := by rw [List.length_take]; omega
        by_cases hlt : (i : Int) < s.length
        · obtain ⟨b, hb⟩ := get_lt (show i < s.length by omega)
          have hbz := hg.siz b (mem_of_get hb)
          repeat' (first | (with_reducible first | refine Wa ?_ | refine Wb ?_ | refine Wc ?_ | refine Wd ?_ | refine We ?_ | refine Wf ?_ | refine Wg ?_ | refine Wh ?_ | refine Wi ?_ | refine Wj ?_ | refine Wk (by decide) ?_ | refine Wl ?_ | refine Wm ?_ | refine Wn ?_) | ((with_reducible first | refine Wo (fun K hK => ?_) | refine Wp ?_ | refine Wq ?_ | refine Wr ?_); (try simp only [go_sem, List.forall_mem_nil, ↓guard_ite, ↓pick_ite, seval, encT_eq, inR_i64, e0, e4, e8, e9, e10, s11, hlt, hb, encB, decide_eq_true_eq, decide_eq_false_iff_not, Int.ofNat_lt]); (repeat with_reducible refine And.intro (by first | omega | with_reducible exact lens_encT | with_reducible exact lens_encL | with_reducible exact lens_encB | with_reducible exact lens_encP | (simp; done) | (simp only [List.length_take, List.length_map, List.length_append, maxLen_eq]; omega)) ?_); (try (with_reducible refine hK _ ?_; clear hK K)); (try with_reducible refine ite_conj ?_)))
          refine ⟨_, onRef_a [(u.name, t)] b.2 (by omega), ?_⟩
          by_cases hz : (b.2.on [(u.name, t)]).size ≤ 2000
          · have hon : onTo [(u.name, t)] b.2 = (b.2.on [(u.name, t)], true) := by unfold onTo; rw [if_pos hz]
            repeat' (first | (with_reducible first | refine Wa ?_ | refine Wb ?_ | refine Wc ?_ | refine Wd ?_ | refine We ?_ | refine Wf ?_ | refine Wg ?_ | refine Wh ?_ | refine Wi ?_ | refine Wj ?_ | refine Wk (by decide) ?_ | refine Wl ?_ | refine Wm ?_ | refine Wn ?_) | ((with_reducible first | refine Wo (fun K hK => ?_) | refine Wp ?_ | refine Wq ?_ | refine Wr ?_); (try simp only [go_sem, List.forall_mem_nil, ↓guard_ite, ↓pick_ite, seval, encT_eq, inR_i64, hon, e0, e4, e8, e9, e10, s900, s11, hb, hli, encB, decide_eq_true_eq, decide_eq_false_iff_not, Int.ofNat_lt]); (repeat with_reducible refine And.intro (by first | omega | with_reducible exact lens_encT | with_reducible exact lens_encL | with_reducible exact lens_encB | with_reducible exact lens_encP | (simp; done) | (simp only [List.length_take, List.length_map, List.length_append, maxLen_eq]; omega)) ?_); (try (with_reducible refine hK _ ?_; clear hK K)); (try with_reducible refine ite_conj ?_)))
            refine then_normal ⟨s.length - (i + 1), by omega, i + 1, by omega, rfl, fun c hc => ?_, ?_⟩
            · rw [take_snoc hb] at hc
              rcases List.mem_append.1 hc with hc | hc
              · exact h20 c hc
              · rw [List.mem_singleton.1 hc]; exact hz
            · simp only [go_sem, List.forall_mem_nil, ↓guard_ite, ↓pick_ite, seval, AS.drop, dropS, AC.clears, AC.clear, AC.highs, AC.high, Bool.not_false, Bool.true_and, Bool.and_self, AV.purge, AV.purges, AC.purge, ABlk.purge, List.contains_cons, List.contains_nil, Nat.reduceBEq, Bool.or_self, Bool.or_false, Bool.false_or, Bool.or_true, encT_eq, inR_i64, e0, e4, e8, e9, e10, s900, s11]
              refine ⟨rfl, by congr 3, ?_, fun j hj => ?_⟩
              · rw [take_snoc hb, List.map_append, List.map_append]
                rfl
              · have j11b : (j == 11) = false := by simp; omega
                have j11 : ¬ j = 11 := by omega
                have j900 : ¬ j = 900 := by omega
                simp only [go_sem, List.forall_mem_nil, ↓guard_ite, ↓pick_ite, seval, AS.drop, dropS, AC.clears, AC.clear, AC.highs, AC.high, Bool.not_false, Bool.true_and, Bool.and_self, AV.purge, AV.purges, AC.purge, ABlk.purge, List.contains_cons, List.contains_nil, Nat.reduceBEq, Bool.or_self, Bool.or_false, Bool.false_or, Bool.or_true, encT_eq, inR_i64, j11b, j11, j900]
                rw [sno j hj]
                rfl
          · have hon : onTo [(u.name, t)] b.2 = (Tm.nil, false) := by unfold onTo; rw [if_neg hz]
            have hbv : bindV s u.name t = .err 8 := by
              unfold bindV
              rw [if_neg (by rw [ho]; simp), if_neg]
              intro hall
              have := List.all_eq_true.1 hall b (mem_of_get hb)
              exact hz (by simpa using this)
            repeat' (first | (with_reducible first | refine Wa ?_ | refine Wb ?_ | refine Wc ?_ | refine Wd ?_ | refine We ?_ | refine Wf ?_ | refine Wg ?_ | refine Wh ?_ | refine Wi ?_ | refine Wj ?_ | refine Wk (by decide) ?_ | refine Wl ?_ | refine Wm ?_ | refine Wn ?_) | ((with_reducible first | refine Wo (fun K hK => ?_) | refine Wp ?_ | refine Wq ?_ | refine Wr ?_); (try simp only [go_sem, List.forall_mem_nil, ↓guard_ite, ↓pick_ite, seval, encT_eq, inR_i64, hon, decide_eq_true_eq, decide_eq_false_iff_not, Int.ofNat_lt]); (repeat with_reducible refine And.intro (by first | omega | with_reducible exact lens_encT | with_reducible exact lens_encL | with_reducible exact lens_encB | with_reducible exact lens_encP | (simp; done) | (simp only [List.length_take, List.length_map, List.length_append, maxLen_eq]; omega)) ?_); (try (with_reducible refine hK _ ?_; clear hK K)); (try with_reducible refine ite_conj ?_)))
            simp only [go_sem, List.forall_mem_nil, ↓guard_ite, ↓pick_ite, seval, FinQ, AS.result, resAll, resOne, tupV]
            rcases hinv with ⟨e, h1, rfl⟩ | ⟨s', ps, q, h1, _⟩
            · rw [hbv] at h1
              cases h1
              rfl
            · rw [hbv] at h1
              cases h1
        · have hall : s.take i = s := List.take_of_length_le (by omega)
          obtain rfl : i = s.length := by omega
          rw [hall] at s900 h20
          have hbv : bindV s u.name t = .go (sortB (s.map (fun b => (b.1, b.2.on [(u.name, t)])) ++ [(u.name, t)])) [] := by
            unfold bindV
            rw [if_neg (by rw [ho]; simp), if_pos]
            exact List.all_eq_true.2 fun b hb => by simpa using h20 b hb
          obtain ⟨hg', _⟩ := step_good hg (hst.trans hbv)
          rcases hinv with ⟨e, h1, _⟩ | ⟨s', ps, q, h1, h2, h3⟩
          · rw [hbv] at h1
            cases h1
          rw [hbv] at h1
          cases h1
          have hnamed := named_perm (sortB_perm _) (ordered_named hg'.ord)
          have hL : (s.map (fun b => (b.1, b.2.on [(u.name, t)]))).map encB ++ [[SV.str u.name, SV.str t.name, SV.list (t.args.map encT)]] = (s.map (fun b => (b.1, b.2.on [(u.name, t)])) ++ [(u.name, t)]).map encB := by
            rw [List.map_append]
            rfl
          repeat' (first | (with_reducible first | refine Wa ?_ | refine Wb ?_ | refine Wc ?_ | refine Wd ?_ | refine We ?_ | refine Wf ?_ | refine Wg ?_ | refine Wh ?_ | refine Wi ?_ | refine Wj ?_ | refine Wk (by decide) ?_ | refine Wl ?_ | refine Wm ?_ | refine Wn ?_) | ((with_reducible first | refine Wo (fun K hK => ?_) | refine Wp ?_ | refine Wq ?_ | refine Wr ?_); (try simp only [go_sem, List.forall_mem_nil, ↓guard_ite, ↓pick_ite, seval, encT_eq, inR_i64, e0, e4, e8, e9, e10, s900, hlt, encB, decide_eq_true_eq, decide_eq_false_iff_not, Int.ofNat_lt]); (repeat with_reducible refine And.intro (by first | omega | with_reducible exact lens_encT | with_reducible exact lens_encL | with_reducible exact lens_encB | with_reducible exact lens_encP | (simp; done) | (simp only [List.length_take, List.length_map, List.length_append, maxLen_eq]; omega)) ?_); (try (with_reducible refine hK _ ?_; clear hK K)); (try with_reducible refine ite_conj ?_)))
          rw [hL]
          refine ⟨_, sortedR_a _ hnamed (by simp; omega), ?_⟩
          repeat' (first | (with_reducible first | refine Wa ?_ | refine Wb ?_ | refine Wc ?_ | refine Wd ?_ | refine We ?_ | refine Wf ?_ | refine Wg ?_ | refine Wh ?_ | refine Wi ?_ | refine Wj ?_ | refine Wk (by decide) ?_ | refine Wl ?_ | refine Wm ?_ | refine Wn ?_) | ((with_reducible first | refine Wo (fun K hK => ?_) | refine Wp ?_ | refine Wq ?_ | refine Wr ?_); (try simp only [go_sem, List.forall_mem_nil, ↓guard_ite, ↓pick_ite, seval, encT_eq, inR_i64, e0, decide_eq_true_eq, decide_eq_false_iff_not, Int.ofNat_lt]); (repeat with_reducible refine And.intro (by first | omega | with_reducible exact lens_encT | with_reducible exact lens_encL | with_reducible exact lens_encB | with_reducible exact lens_encP | (simp; done) | (simp only [List.length_take, List.length_map, List.length_append, maxLen_eq]; omega)) ?_); (try (with_reducible refine hK _ ?_; clear hK K)); (try with_reducible refine ite_conj ?_)))
          refine then_normal ⟨q, h2, _, l, h3, hg', ?_, ?_, fun j hj => ?_⟩
          · simp only [go_sem, List.forall_mem_nil, ↓guard_ite, ↓pick_ite, seval, encT_eq, inR_i64, e0]
          · simp only [go_sem, List.forall_mem_nil, ↓guard_ite, ↓pick_ite, seval, encT_eq, inR_i64]
          · have j900 : ¬ j = 900 := by omega
            simp only [go_sem, List.forall_mem_nil, ↓guard_ite, ↓pick_ite, seval, encT_eq, inR_i64, j900]
            exact sno j hj
    · -- two knots
      rw [hst] at hinv
      have husz := ht.siz
      have huk := Tm.length_le u.args
      have hus := Tm.size_eq u
      have husz := hu.siz
      by_cases hsame : u.name = t.name ∧ u.args.length = t.args.length
      · rw [if_pos hsame] at hst hinv
        obtain ⟨hg', _⟩ := step_good hg hst
        rcases hinv with ⟨e, h1, _⟩ | ⟨s', ps, q, h1, h2, h3⟩
        · cases h1
        cases h1
        have hargs : (u.args.length : Int) = t.args.length := by rw [hsame.2]
        repeat' (first | (with_reducible first | refine Wa ?_ | refine Wb ?_ | refine Wc ?_ | refine Wd ?_ | refine We ?_ | refine Wf ?_ | refine Wg ?_ | refine Wh ?_ | refine Wi ?_ | refine Wj ?_ | refine Wk (by decide) ?_ | refine Wl ?_ | refine Wm ?_ | refine Wn ?_) | ((with_reducible first | refine Wo (fun K hK => ?_) | refine Wp ?_ | refine Wq ?_ | refine Wr ?_); (try simp only [go_sem, List.forall_mem_nil, ↓guard_ite, ↓pick_ite, seval, encT_eq, inR_i64, e5, s5, decide_eq_true_eq, decide_eq_false_iff_not, Int.ofNat_lt]); (repeat with_reducible refine And.intro (by first | omega | with_reducible exact lens_encT | with_reducible exact lens_encL | with_reducible exact lens_encB | with_reducible exact lens_encP | (simp; done) | (simp only [List.length_take, List.length_map, List.length_append, maxLen_eq]; omega)) ?_); (try (with_reducible refine hK _ ?_; clear hK K)); (try with_reducible refine ite_conj ?_)))
        refine ⟨_, isVar_a _, ?_⟩
        have hvt : isVar t.name = false := by rw [← hsame.1]; exact hv
        repeat' (first | (with_reducible first | refine Wa ?_ | refine Wb ?_ | refine Wc ?_ | refine Wd ?_ | refine We ?_ | refine Wf ?_ | refine Wg ?_ | refine Wh ?_ | refine Wi ?_ | refine Wj ?_ | refine Wk (by decide) ?_ | refine Wl ?_ | refine Wm ?_ | refine Wn ?_) | ((with_reducible first | refine Wo (fun K hK => ?_) | refine Wp ?_ | refine Wq ?_ | refine Wr ?_); (try simp only [go_sem, List.forall_mem_nil, ↓guard_ite, ↓pick_ite, seval, encT_eq, inR_i64, hv, hvt, e0, e4, e5, e7, s5, s7, hsame.1, hsame.2, decide_eq_true_eq, decide_eq_false_iff_not, Int.ofNat_lt]); (repeat with_reducible refine And.intro (by first | omega | with_reducible exact lens_encT | with_reducible exact lens_encL | with_reducible exact lens_encB | with_reducible exact lens_encP | (simp; done) | (simp only [List.length_take, List.length_map, List.length_append, maxLen_eq]; omega)) ?_); (try (with_reducible refine hK _ ?_; clear hK K)); (try with_reducible refine ite_conj ?_)))
        have s901 : S 901 = none := sno 901 (by omega) (by omega)
        refine IWP.ghost (Ghost.own 13 901 57 4 (xs := []) rfl s901 (by simp) (by rw [hC]; decide)) ?_
        refine IWP.loop (fun m x => ∃ i, i ≤ u.args.length ∧ m = u.args.length - i ∧ x.env 0 = aPrs l ∧ x.env 4 = aBds s ∧ x.env 5 = .one (.ptr 5 1 0 0) ∧ x.env 7 = .one (.ptr 7 1 0 0) ∧ x.env 13 = .one (.row 901 i) ∧ x.env 14 = aInt i ∧ x.S 5 = some (boxT u) ∧ x.S 7 = some (boxT t) ∧ x.S 901 = some (.arow 57 4 (((u.args.zip t.args).take i).map encP)) ∧ ∀ i, 1000 ≤ i → x.S i = none)
          u.args.length ⟨0, Nat.zero_le _, rfl, ?_⟩ ?_
        · simp only [go_sem, List.forall_mem_nil, ↓guard_ite, ↓pick_ite, seval, encT_eq, inR_i64, e0, e4, e5, e7, s5, s7]
          intro i hi
          have i9 : ¬ i = 901 := by omega
          simp only [go_sem, List.forall_mem_nil, ↓guard_ite, ↓pick_ite, seval, encT_eq, inR_i64, i9]
          exact sno i (by omega) (by omega)
        have hzl : (u.args.zip t.args).length = u.args.length := by rw [List.length_zip, hsame.2, Nat.min_self]
        have hstk : l.length ≤ 100000000000 := by have := hg.stack; rw [List.length_cons] at this; omega
        rintro mm ⟨env2, S2⟩ ⟨i, hi, rfl, e0, e4, e5, e7, e13, e14, s5, s7, s901, sno⟩
        simp only at e0 e4 e5 e7 e13 e14 s5 s7 s901 sno
        have hli : ((u.args.zip t.args).take i).length = i := by rw [List.length_take]; omega
        by_cases hlt : (i : Int) < u.args.length
        · obtain ⟨a, ha⟩ := get_lt (show i < u.args.length by omega)
          obtain ⟨c, hc⟩ := get_lt (show i < t.args.length by omega)
          have hac : (u.args.zip t.args)[i]? = some (a, c) := List.getElem?_zip_eq_some.2 ⟨ha, hc⟩
          repeat' (first | (with_reducible first | refine Wa ?_ | refine Wb ?_ | refine Wc ?_ | refine Wd ?_ | refine We ?_ | refine Wf ?_ | refine Wg ?_ | refine Wh ?_ | refine Wi ?_ | refine Wj ?_ | refine Wk (by decide) ?_ | refine Wl ?_ | refine Wm ?_ | refine Wn ?_) | ((with_reducible first | refine Wo (fun K hK => ?_) | refine Wp ?_ | refine Wq ?_ | refine Wr ?_); (try simp only [go_sem, List.forall_mem_nil, ↓guard_ite, ↓pick_ite, seval, encT_eq, inR_i64, e0, e4, e5, e7, e13, e14, s5, s7, s901, hlt, ha, hc, hli, encP, decide_eq_true_eq, decide_eq_false_iff_not, Int.ofNat_lt]); (repeat with_reducible refine And.intro (by first | omega | with_reducible exact lens_encT | with_reducible exact lens_encL | with_reducible exact lens_encB | with_reducible exact lens_encP | (simp; done) | (simp only [List.length_take, List.length_map, List.length_append, maxLen_eq]; omega)) ?_); (try (with_reducible refine hK _ ?_; clear hK K)); (try with_reducible refine ite_conj ?_)))
          refine then_normal ⟨u.args.length - (i + 1), by omega, i + 1, by omega, rfl, ?_⟩
          simp only [go_sem, List.forall_mem_nil, ↓guard_ite, ↓pick_ite, seval, encT_eq, inR_i64, e0, e4, e5, e7, e13, e14, s5, s7, s901]
          refine ⟨by congr 3, ?_, fun j hj => ?_⟩
          · rw [take_snoc hac, List.map_append]
            rfl
          · have j901 : ¬ j = 901 := by omega
            simp only [go_sem, List.forall_mem_nil, ↓guard_ite, ↓pick_ite, seval, encT_eq, inR_i64, j901]
            exact sno j hj
        · obtain rfl : i = u.args.length := by omega
          have hall : (u.args.zip t.args).take u.args.length = u.args.zip t.args := List.take_of_length_le (by omega)
          rw [hall] at s901 hli
          repeat' (first | (with_reducible first | refine Wa ?_ | refine Wb ?_ | refine Wc ?_ | refine Wd ?_ | refine We ?_ | refine Wf ?_ | refine Wg ?_ | refine Wh ?_ | refine Wi ?_ | refine Wj ?_ | refine Wk (by decide) ?_ | refine Wl ?_ | refine Wm ?_ | refine Wn ?_) | ((with_reducible first | refine Wo (fun K hK => ?_) | refine Wp ?_ | refine Wq ?_ | refine Wr ?_); (try simp only [go_sem, List.forall_mem_nil, ↓guard_ite, ↓pick_ite, seval, encT_eq, inR_i64, e0, e4, e5, e7, e13, e14, s5, s7, s901, hlt, hli, encP, decide_eq_true_eq, decide_eq_false_iff_not, Int.ofNat_lt]); (repeat with_reducible refine And.intro (by first | omega | with_reducible exact lens_encT | with_reducible exact lens_encL | with_reducible exact lens_encB | with_reducible exact lens_encP | (simp; done) | (simp only [List.length_take, List.length_map, List.length_append, maxLen_eq]; omega)) ?_); (try (with_reducible refine hK _ ?_; clear hK K)); (try with_reducible refine ite_conj ?_)))
          refine then_normal ⟨q, h2, s, u.args.zip t.args ++ l, h3, hg', ?_, ?_, fun j hj => ?_⟩
          · simp only [go_sem, List.forall_mem_nil, ↓guard_ite, ↓pick_ite, seval, encT_eq, inR_i64, hzl]
            rw [← List.map_append]
          · simp only [go_sem, List.forall_mem_nil, ↓guard_ite, ↓pick_ite, seval, encT_eq, inR_i64, e4]
          · have j901 : ¬ j = 901 := by omega
            simp only [go_sem, List.forall_mem_nil, ↓guard_ite, ↓pick_ite, seval, encT_eq, inR_i64, j901]
            exact sno j hj
      · rw [if_neg hsame] at hst hinv
        repeat' (first | (with_reducible first | refine Wa ?_ | refine Wb ?_ | refine Wc ?_ | refine Wd ?_ | refine We ?_ | refine Wf ?_ | refine Wg ?_ | refine Wh ?_ | refine Wi ?_ | refine Wj ?_ | refine Wk (by decide) ?_ | refine Wl ?_ | refine Wm ?_ | refine Wn ?_) | ((with_reducible first | refine Wo (fun K hK => ?_) | refine Wp ?_ | refine Wq ?_ | refine Wr ?_); (try simp only [go_sem, List.forall_mem_nil, ↓guard_ite, ↓pick_ite, seval, encT_eq, inR_i64, e5, s5, decide_eq_true_eq, decide_eq_false_iff_not, Int.ofNat_lt]); (repeat with_reducible refine And.intro (by first | omega | with_reducible exact lens_encT | with_reducible exact lens_encL | with_reducible exact lens_encB | with_reducible exact lens_encP | (simp; done) | (simp only [List.length_take, List.length_map, List.length_append, maxLen_eq]; omega)) ?_); (try (with_reducible refine hK _ ?_; clear hK K)); (try with_reducible refine ite_conj ?_)))
        refine ⟨_, isVar_a _, ?_⟩
        by_cases hn : u.name = t.name
        · have hl : ¬ (u.args.length : Int) = t.args.length := fun h => hsame ⟨hn, by omega⟩
          have hvt : isVar t.name = false := by rw [← hn]; exact hv
          repeat' (first | (with_reducible first | refine Wa ?_ | refine Wb ?_ | refine Wc ?_ | refine Wd ?_ | refine We ?_ | refine Wf ?_ | refine Wg ?_ | refine Wh ?_ | refine Wi ?_ | refine Wj ?_ | refine Wk (by decide) ?_ | refine Wl ?_ | refine Wm ?_ | refine Wn ?_) | ((with_reducible first | refine Wo (fun K hK => ?_) | refine Wp ?_ | refine Wq ?_ | refine Wr ?_); (try simp only [go_sem, List.forall_mem_nil, ↓guard_ite, ↓pick_ite, seval, encT_eq, inR_i64, hv, hvt, e0, e4, e5, e7, s5, s7, hn, hl, decide_eq_true_eq, decide_eq_false_iff_not, Int.ofNat_lt]); (repeat with_reducible refine And.intro (by first | omega | with_reducible exact lens_encT | with_reducible exact lens_encL | with_reducible exact lens_encB | with_reducible exact lens_encP | (simp; done) | (simp only [List.length_take, List.length_map, List.length_append, maxLen_eq]; omega)) ?_); (try (with_reducible refine hK _ ?_; clear hK K)); (try with_reducible refine ite_conj ?_)))
          simp only [go_sem, List.forall_mem_nil, ↓guard_ite, ↓pick_ite, seval, FinQ, AS.result, resAll, resOne, tupV]
          rcases hinv with ⟨e, h1, rfl⟩ | ⟨s', ps, q, h1, _⟩
          · cases h1
            rfl
          · cases h1
        · repeat' (first | (with_reducible first | refine Wa ?_ | refine Wb ?_ | refine Wc ?_ | refine Wd ?_ | refine We ?_ | refine Wf ?_ | refine Wg ?_ | refine Wh ?_ | refine Wi ?_ | refine Wj ?_ | refine Wk (by decide) ?_ | refine Wl ?_ | refine Wm ?_ | refine Wn ?_) | ((with_reducible first | refine Wo (fun K hK => ?_) | refine Wp ?_ | refine Wq ?_ | refine Wr ?_); (try simp only [go_sem, List.forall_mem_nil, ↓guard_ite, ↓pick_ite, seval, encT_eq, inR_i64, hv, e0, e4, e5, e7, s5, s7, hn, decide_eq_true_eq, decide_eq_false_iff_not, Int.ofNat_lt]); (repeat with_reducible refine And.intro (by first | omega | with_reducible exact lens_encT | with_reducible exact lens_encL | with_reducible exact lens_encB | with_reducible exact lens_encP | (simp; done) | (simp only [List.length_take, List.length_map, List.length_append, maxLen_eq]; omega)) ?_); (try (with_reducible refine hK _ ?_; clear hK K)); (try with_reducible refine ite_conj ?_)))
          simp only [go_sem, List.forall_mem_nil, ↓guard_ite, ↓pick_ite, seval, FinQ, AS.result, resAll, resOne, tupV]
          rcases hinv with ⟨e, h1, rfl⟩ | ⟨s', ps, q, h1, _⟩
          · cases h1
            rfl
          · cases h1
end Go.Proofs.Ytnbdpkgndhacfaa
