/-
  Part 13 of the texts: BInf3; BInf4; IrSubst. Conditions: none.
-/
import Derived.Test.YtehnjhkndbcmgaaGreatDoorInM12
namespace Go.Proofs.YtehnjhkndbcmgaaGreatDoor
open Go Go.RowKit
set_option linter.unusedVariables false
set_option linter.unusedSimpArgs false
set_option maxHeartbeats 2000000
theorem UL.v_kind (i : Nat) : (UL.v i).lm.kind = 1 := rfl
theorem UL.v_idx (i : Nat) : (UL.v i).lm.idx = i := rfl
theorem UL.v_subs (i : Nat) : (UL.v i).lm.subs = [] := rfl
theorem UL.l_kind (b : UL) : (UL.l b).lm.kind = 2 := rfl
theorem UL.l_idx (b : UL) : (UL.l b).lm.idx = 0 := rfl
theorem UL.l_subs (b : UL) : (UL.l b).lm.subs = [b.lm] := rfl
theorem UL.a_kind (f x : UL) : (UL.a f x).lm.kind = 3 := rfl
theorem UL.a_idx (f x : UL) : (UL.a f x).lm.idx = 0 := rfl
theorem UL.a_subs (f x : UL) : (UL.a f x).lm.subs = [f.lm, x.lm] := rfl
attribute [go_sem] UL.v_kind UL.v_idx UL.v_subs UL.l_kind UL.l_idx UL.l_subs UL.a_kind UL.a_idx UL.a_subs
theorem acallsS_told {P : Program} {f : FuncId} {x y : AV} {r0 n : Nat} {S : AStore} {r : AV} {S' : AStore} {e : TypeId} {wd : Nat} {xs : List (List SV)} (hS : S r0 = some (.arow e wd xs)) (hn : n = xs.length) (h : ACallsS P f [x, y, .one (.st (.list xs))] S r S') : ACallsS P f [x, y, .one (.row r0 n)] S r S' := by
  intro hc σ w vs ι hg hf ho hv
  refine h hc σ w vs ι hg hf ho ?_
  cases hv with
  | cons h1 hv =>
  cases hv with
  | cons h2 hv =>
  cases hv with
  | cons h3 hv =>
  cases hv
  refine .cons h1 (.cons h2 (.cons ?_ .nil))
  have h3 := vrep_one h3
  cases h3 with
  | row q1 q2 q3 q4 =>
    rw [hS] at q1
    cases q1
    rw [q4 hn, hn]
    exact .one (.st (ho.1 _ _ hS).srep)
theorem cloneA_N (l : List Tm) (hl : l.length ≤ 1000000) : ACallsN Tryz.prog 80 [aTms l] 69 2 (l.map encT) := by
  unfold ACallsN
  rw [List.length_map]
  refine acS_slices_Clone_metaprune_api_Term_metaprune_api_Term (Nat.le_of_ble_eq_true rfl) fun hS C hC => ?_
  unfold ir_slices_Clone_metaprune_api_Term_metaprune_api_Term
  by_cases h0 : l.length = 0
  · have hl : l = [] := List.eq_nil_of_length_eq_zero h0
    subst hl
    repeat' (first | (with_reducible first | refine W ?_ | refine Wk (by decide) ?_) | ((with_reducible first | refine Wo (fun K hK => ?_) | refine Wp ?_ | refine Wq ?_ | refine Wr ?_); (try simp only [go_sem, fN, ↓gI, ↓pI, seval, eT, iR, dT, dF, nL]); (repeat with_reducible refine And.intro (by first | omega | exact lens | (simp [maxLen_eq] <;> omega)) ?_); (try (refine hK _ ?_; clear hK K)); (try with_reducible refine iC ?_)))
    refine ⟨?_, ?_⟩
    · repeat' (first | (with_reducible first | refine W ?_ | refine Wk (by decide) ?_) | ((with_reducible first | refine Wo (fun K hK => ?_) | refine Wp ?_ | refine Wq ?_ | refine Wr ?_); (try simp only [go_sem, fN, ↓gI, ↓pI, seval, eT, iR, dT, dF, nL]); (repeat with_reducible refine And.intro (by first | omega | exact lens | (simp [maxLen_eq] <;> omega)) ?_); (try (refine hK _ ?_; clear hK K)); (try with_reducible refine iC ?_)))
      refine finS_ghost (Ghost.own (C := C) 2 30 69 2 (xs := []) rfl rfl (by simp) (by omega)) ?_
      exact finN (mu := false) trivial 30 (by decide) rfl (fun i hi => by show updE _ _ _ _ = _; rw [updE_ne _ (by omega)]; rfl) rfl
    · repeat' (first | (with_reducible first | refine W ?_ | refine Wk (by decide) ?_) | ((with_reducible first | refine Wo (fun K hK => ?_) | refine Wp ?_ | refine Wq ?_ | refine Wr ?_); (try simp only [go_sem, fN, ↓gI, ↓pI, seval, eT, iR, dT, dF, nL]); (repeat with_reducible refine And.intro (by first | omega | exact lens | (simp [maxLen_eq] <;> omega)) ?_); (try (refine hK _ ?_; clear hK K)); (try with_reducible refine iC ?_)))
      exact finN (mu := false) trivial 7 (by decide) rfl (fun i hi => by show updE _ _ _ _ = _; rw [updE_ne _ (by omega)]; rfl) rfl
  · have hb : l.length * 40 ≤ 140737488355328 := by omega
    repeat' (first | (with_reducible first | refine W ?_ | refine Wk (by decide) ?_) | ((with_reducible first | refine Wo (fun K hK => ?_) | refine Wp ?_ | refine Wq ?_ | refine Wr ?_); (try simp only [go_sem, fN, ↓gI, ↓pI, seval, eT, iR, h0, hb, dT, dF, nL]); (repeat with_reducible refine And.intro (by first | omega | exact lens | (simp [maxLen_eq] <;> omega)) ?_); (try (refine hK _ ?_; clear hK K)); (try with_reducible refine iC ?_)))
    exact finN (mu := false) trivial 7 (by decide) rfl (fun i hi => by show updE _ _ _ _ = _; rw [updE_ne _ (by omega)]; rfl) rfl
structure Eqs (T : TypeId) (S : AStore) (a0 r : Nat) (m : List Pr × Nat) : Prop where
  ha : 1000 ≤ a0
  hr : 1000 ≤ r
  ne : a0 ≠ r
  box : S a0 = some (.box T [.row r m.1.length, .st (.int .i64 (m.2 : Int))])
  row : S r = some (.arow 114 4 (m.1.map encP))
def eqS (T : TypeId) (S : AStore) (a0 r : Nat) (m : List Pr × Nat) : AStore := updE (updE S a0 (some (.box T [.row r m.1.length, .st (.int .i64 (m.2 : Int))]))) r (some (.arow 114 4 (m.1.map encP)))
theorem eqs_up {T : TypeId} {S : AStore} {a0 r : Nat} {m : List Pr × Nat} (ha : 1000 ≤ a0) (hr : 1000 ≤ r) (hne : a0 ≠ r) (h1 : S a0 = some (.box T [.row r m.1.length, .st (.int .i64 (m.2 : Int))])) (h2 : S r = some (.arow 114 4 (m.1.map encP))) : Eqs T (upS S) (up1 a0) (up1 r) m :=
  ⟨up1_le _, up1_le _, fun e => hne (Nat.add_right_cancel e), by rw [upS_some h1]; rfl, by rw [upS_some h2]; rfl⟩
theorem eqs_end {C : Ctx} {rs : List RV} {r : AV} {e : AX} {s : AS} {T : TypeId} {S : AStore} {a0 r0 : Nat} {m m' : List Pr × Nat} (h : Eqs T S a0 r0 m) (rv : AV) (hS : Clean S) (he : match e with | .normal => True | .ret => True | _ => False)
    (h1 : (resAll s rs).map tupV = some rv) (h2 : outV s.S rv = some r) (h3 : s.S a0 = some (.box T [.row r0 m'.1.length, .st (.int .i64 (m'.2 : Int))])) (h3' : s.S r0 = some (.arow 114 4 (m'.1.map encP))) (h4 : ∀ i, 1000 ≤ i → i ≠ a0 → i ≠ r0 → s.S i = S i) : FinS C rs r (eqS T S a0 r0 m') e s :=
  finS_two rv hS h.ha h.hr (fun e => h.ne e.symm) (by simp only [ABlk.high, AC.highs, AC.high, decide_eq_true h.hr, Bool.and_self]) rfl he h1 h2 h3 h3' h4
theorem ty_v (i : Nat) (und : List Tm) (m : List Pr × Nat) {t : Tm} (h : und[und.length - 1 - i]? = some t) : (UL.v i).ty und m = (t, m) := by
  rw [UL.ty, List.getD_eq_getElem?_getD, h]
  rfl
set_option maxHeartbeats 8000000 in
theorem of_S (K : Nat) (hK : K ≤ 5000) (x : UL) : ∀ {und : List Tm} {m : List Pr × Nat} {a0 r : Nat} {S : AStore}, Eqs 82 S a0 r m → x.closed und.length → (∀ t ∈ und, inT m.2 t ∧ t.size = 1) → 2 * x.sz + 2 ≤ K → m.2 + x.sz < 800000 → m.1.length + x.sz ≤ 100000 → und.length + x.sz ≤ 100000 → TyOk K m →
    ACallsS Tryz.prog 44 [.one (.ptr a0 1 0 0), aLm x.lm, aTms und] S (aTm (x.ty und m).1) (eqS 82 S a0 r (x.ty und m).2) := by
  induction x with
  | v i =>
    intro und m a0 r S h hc hu hK hn hl1 hl2 hm
    have hc : i < und.length := hc
    obtain ⟨t, ht⟩ := get_lt (show und.length - 1 - i < und.length by omega)
    rw [ty_v i und m ht]
    have hbox := h.box
    have hrow := h.row
    have ha := h.ha
    have hr := h.hr
    have e1 : ((und.length : Int) - 1 - (i : Int)) = ((und.length - 1 - i : Nat) : Int) := by omega
    refine acS_metaprune_infer_maker_of (Nat.le_of_ble_eq_true rfl) fun hS C hC => ?_
    have k4 : S 4 = none := clean_none hS (by omega)
    have k6 : S 6 = none := clean_none hS (by omega)
    unfold ir_metaprune_infer_maker_of
    repeat' (first | (with_reducible first | refine W ?_ | refine Wk (by decide) ?_) | ((with_reducible first | refine Wo (fun K hK => ?_) | refine Wp ?_ | refine Wq ?_ | refine Wr ?_); (try simp only [go_sem, fN, ↓gI, ↓pI, seval, eT, iR, k4, k6, e1, ht, dT, dF, nL]); (repeat with_reducible refine And.intro (by first | omega | exact lens | (simp [maxLen_eq] <;> omega)) ?_); (try (refine hK _ ?_; clear hK K)); (try with_reducible refine iC ?_)))
    have a4 : ¬ a0 = 4 := by omega
    have a6 : ¬ a0 = 6 := by omega
    have r4 : ¬ r = 4 := by omega
    have r6 : ¬ r = 6 := by omega
    refine eqs_end h (aTm t) hS trivial ?_ ?_ ?_ ?_ fun i hi i1 i2 => ?_
    · simp only [go_sem, fN, ↓gI, ↓pI, seval, eT, iR, resAll, resOne, tupV]
    · simp only [go_sem, fN, ↓gI, ↓pI, seval, eT, iR]
      try rfl
    · simp only [go_sem, fN, ↓gI, ↓pI, seval, eT, iR, a4, a6, hbox]
    · simp only [go_sem, fN, ↓gI, ↓pI, seval, eT, iR, r4, r6, hrow]
    · have i4 : ¬ i = 4 := by omega
      have i6 : ¬ i = 6 := by omega
      simp only [go_sem, fN, ↓gI, ↓pI, seval, eT, iR, i4, i6]
  | l b ib =>
    intro und m a0 r S h hc hu hK hn hl1 hl2 hm
    have hbox := h.box
    have hrow := h.row
    have ha := h.ha
    have hr := h.hr
    have hne := h.ne
    have hne2 : ¬ r = a0 := fun e => hne e.symm
    simp only [UL.sz] at hK hn hl1 hl2
    have hv : inT (m.2 + 1) (tvar (m.2 + 1)) := inT_var (by omega) (by omega) (by omega)
    have hcN := cloneA_N und (by omega)
    refine acS_metaprune_infer_maker_of (Nat.le_of_ble_eq_true rfl) fun hS C hC => ?_
    have k4 : S 4 = none := clean_none hS (by omega)
    have k6 : S 6 = none := clean_none hS (by omega)
    have k7 : S 7 = none := clean_none hS (by omega)
    have k35 : S 35 = none := clean_none hS (by omega)
    unfold ir_metaprune_infer_maker_of
    have a4 : ¬ a0 = 4 := by omega
    have a6 : ¬ a0 = 6 := by omega
    have a7 : ¬ a0 = 7 := by omega
    have a35 : ¬ a0 = 35 := by omega
    have r4 : ¬ r = 4 := by omega
    have r6 : ¬ r = 6 := by omega
    have r7 : ¬ r = 7 := by omega
    have r35 : ¬ r = 35 := by omega
    have b4 : ¬ 4 = a0 := by omega
    have b6 : ¬ 6 = a0 := by omega
    have b7 : ¬ 7 = a0 := by omega
    have b35 : ¬ 35 = a0 := by omega
    have c4 : ¬ 4 = r := by omega
    have c6 : ¬ 6 = r := by omega
    have c7 : ¬ 7 = r := by omega
    have c35 : ¬ 35 = r := by omega
    repeat' (first | (with_reducible first | refine W ?_ | refine Wk (by decide) ?_) | ((with_reducible first | refine Wo (fun K hK => ?_) | refine Wp ?_ | refine Wq ?_ | refine Wr ?_); (try simp only [go_sem, fN, ↓gI, ↓pI, seval, eT, iR, k4, k6, k7, dT, dF, nL]); (repeat with_reducible refine And.intro (by first | omega | exact lens | (simp [maxLen_eq] <;> omega)) ?_); (try (refine hK _ ?_; clear hK K)); (try with_reducible refine iC ?_)))
    refine ⟨_, _, fresh_S (n := m.2) (c := .row (up1 r) m.1.length) (up1_le a0) (high_row (up1_le r)) (by omega) (by rw [upS_up]; (simp only [go_sem, fN, ↓gI, ↓pI, seval, eT, iR, a4, a6, hbox])), ?_⟩
    repeat' (first | (with_reducible first | refine W ?_ | refine Wk (by decide) ?_) | ((with_reducible first | refine Wo (fun K hK => ?_) | refine Wp ?_ | refine Wq ?_ | refine Wr ?_); (try simp only [go_sem, fN, ↓gI, ↓pI, seval, eT, iR, k4, k6, k7, b4, b6, b7, b35, a4, a6, a7, k35, dT, dF, nL]); (repeat with_reducible refine And.intro (by first | omega | exact lens | (simp [maxLen_eq] <;> omega)) ?_); (try (refine hK _ ?_; clear hK K)); (try with_reducible refine iC ?_)))
    refine ⟨_, _, _, _, hcN, by simp only [go_sem, fN, ↓gI, ↓pI, seval, eT, iR, b35, k35], ?_⟩
    have hl1000 : und.length + 1 ≤ maxLen := by rw [maxLen_eq]; omega
    repeat' (first | (with_reducible first | refine W ?_ | refine Wk (by decide) ?_) | ((with_reducible first | refine Wo (fun K hK => ?_) | refine Wp ?_ | refine Wq ?_ | refine Wr ?_); (try simp only [go_sem, fN, ↓gI, ↓pI, seval, eT, iR, k4, k6, k7, b4, b6, b7, b35, a4, a6, a7, a35, k35, hl1000, dT, dF, nL]); (repeat with_reducible refine And.intro (by first | omega | exact lens | (simp [maxLen_eq] <;> omega)) ?_); (try (refine hK _ ?_; clear hK K)); (try with_reducible refine iC ?_)))
    refine ⟨_, _, acallsS_told (e := 69) (wd := 2) (xs := (und ++ [tvar (m.2 + 1)]).map encT) (by rw [upS_up]; (simp only [go_sem, fN, ↓gI, ↓pI, seval, eT, iR, b35, k35, List.map_append, List.map_cons, List.map_nil]; try rfl)) (by simp) (ib (und := und ++ [tvar (m.2 + 1)]) (m := (m.1, m.2 + 1)) (a0 := up1 a0) (r := up1 r) (eqs_up ha hr hne (by simp only [go_sem, fN, ↓gI, ↓pI, seval, eT, iR, a4, a6, a7, a35, hbox]) (by simp only [go_sem, fN, ↓gI, ↓pI, seval, eT, iR, r4, r6, r7, r35, hne2, hrow])) (by rw [List.length_append]; exact hc) (fun t ht => by
      rcases List.mem_append.1 ht with ht | ht
      · exact ⟨(hu t ht).1.more (by simp), (hu t ht).2⟩
      · rw [List.mem_singleton] at ht
        subst ht
        exact ⟨hv, rfl⟩) (by omega) (by show m.2 + 1 + b.sz < _; omega) (by show m.1.length + b.sz ≤ _; omega) (by rw [List.length_append, List.length_singleton]; omega) (TyOk.more (m := m.2) hm (by omega))), ?_⟩
    repeat' (first | (with_reducible first | refine W ?_ | refine Wk (by decide) ?_) | refine Cg _ (arrow_a _ _) ?_ | ((with_reducible first | refine Wo (fun K hK => ?_) | refine Wp ?_ | refine Wq ?_ | refine Wr ?_); (try simp only [go_sem, fN, ↓gI, ↓pI, seval, eT, iR, eqS, k4, k6, k7, b4, b6, b7, b35, a4, a6, a7, k35, c4, c6, c7, dT, dF, nL]); (repeat with_reducible refine And.intro (by first | omega | exact lens | (simp [maxLen_eq] <;> omega)) ?_); (try (refine hK _ ?_; clear hK K)); (try with_reducible refine iC ?_)))
    show FinS _ _ (aTm (arrT (tvar (m.2 + 1)) (b.ty (und ++ [tvar (m.2 + 1)]) (m.1, m.2 + 1)).1)) (eqS 82 S a0 r (b.ty (und ++ [tvar (m.2 + 1)]) (m.1, m.2 + 1)).2) _ _
    refine eqs_end h (aTm (arrT (tvar (m.2 + 1)) (b.ty (und ++ [tvar (m.2 + 1)]) (m.1, m.2 + 1)).1)) hS trivial ?_ ?_ ?_ ?_ fun i hi i1 i2 => ?_
    · simp only [go_sem, fN, ↓gI, ↓pI, seval, eT, iR, resAll, resOne, tupV, b6, c6]
    · simp only [go_sem, fN, ↓gI, ↓pI, seval, eT, iR]
      try rfl
    · simp only [go_sem, fN, ↓gI, ↓pI, seval, eT, iR, a4, a6, a7, a35, hne]
    · simp only [go_sem, fN, ↓gI, ↓pI, seval, eT, iR, r4, r6, r7, r35]
    · have i4 : ¬ i = 4 := by omega
      have i6 : ¬ i = 6 := by omega
      have i7 : ¬ i = 7 := by omega
      have i35 : ¬ i = 35 := by omega
      simp only [go_sem, fN, ↓gI, ↓pI, seval, eT, iR, i1, i2, i4, i6, i7, i35]
  | a f x jf jx =>
    intro und m a0 r S h hc hu hK hn hl1 hl2 hm
    have hbox := h.box
    have hrow := h.row
    have ha := h.ha
    have hr := h.hr
    have hne := h.ne
    have hne2 : ¬ r = a0 := fun e => hne e.symm
    simp only [UL.sz] at hK hn hl1 hl2
    obtain ⟨h1, h2, h3, h4, h5, h6⟩ := ty_ok K f und m hc.1 hu (by omega) (by omega) hm
    obtain ⟨j1, j2, j3, j4, j5, j6⟩ := ty_ok K x und (f.ty und m).2 hc.2 (fun t ht => ⟨(hu t ht).1.more h2, (hu t ht).2⟩) (by omega) (by omega) h1
    refine acS_metaprune_infer_maker_of (Nat.le_of_ble_eq_true rfl) fun hS C hC => ?_
    have k4 : S 4 = none := clean_none hS (by omega)
    have k6 : S 6 = none := clean_none hS (by omega)
    have k8 : S 8 = none := clean_none hS (by omega)
    have k9 : S 9 = none := clean_none hS (by omega)
    have k10 : S 10 = none := clean_none hS (by omega)
    unfold ir_metaprune_infer_maker_of
    have a4 : ¬ a0 = 4 := by omega
    have a6 : ¬ a0 = 6 := by omega
    have a8 : ¬ a0 = 8 := by omega
    have a9 : ¬ a0 = 9 := by omega
    have a10 : ¬ a0 = 10 := by omega
    have r4 : ¬ r = 4 := by omega
    have r6 : ¬ r = 6 := by omega
    have r8 : ¬ r = 8 := by omega
    have r9 : ¬ r = 9 := by omega
    have r10 : ¬ r = 10 := by omega
    have b4 : ¬ 4 = a0 := by omega
    have b6 : ¬ 6 = a0 := by omega
    have b8 : ¬ 8 = a0 := by omega
    have b9 : ¬ 9 = a0 := by omega
    have b10 : ¬ 10 = a0 := by omega
    have c4 : ¬ 4 = r := by omega
    have c6 : ¬ 6 = r := by omega
    have c8 : ¬ 8 = r := by omega
    have c9 : ¬ 9 = r := by omega
    have c10 : ¬ 10 = r := by omega
    repeat' (first | (with_reducible first | refine W ?_ | refine Wk (by decide) ?_) | ((with_reducible first | refine Wo (fun K hK => ?_) | refine Wp ?_ | refine Wq ?_ | refine Wr ?_); (try simp only [go_sem, fN, ↓gI, ↓pI, seval, eT, iR, k4, k6, dT, dF, nL]); (repeat with_reducible refine And.intro (by first | omega | exact lens | (simp [maxLen_eq] <;> omega)) ?_); (try (refine hK _ ?_; clear hK K)); (try with_reducible refine iC ?_)))
    refine ⟨_, _, jf (und := und) (m := m) (a0 := up1 a0) (r := up1 r) (eqs_up ha hr hne (by simp only [go_sem, fN, ↓gI, ↓pI, seval, eT, iR, a4, a6, hbox]) (by simp only [go_sem, fN, ↓gI, ↓pI, seval, eT, iR, r4, r6, hrow])) hc.1 hu (by omega) (by omega) (by omega) (by omega) hm, ?_⟩
    generalize hm1 : (f.ty und m) = m1 at *
    repeat' (first | (with_reducible first | refine W ?_ | refine Wk (by decide) ?_) | ((with_reducible first | refine Wo (fun K hK => ?_) | refine Wp ?_ | refine Wq ?_ | refine Wr ?_); (try simp only [go_sem, fN, ↓gI, ↓pI, seval, eT, iR, eqS, k4, k6, k8, b4, b6, b8, a4, a6, c4, c6, c8, dT, dF, nL]); (repeat with_reducible refine And.intro (by first | omega | exact lens | (simp [maxLen_eq] <;> omega)) ?_); (try (refine hK _ ?_; clear hK K)); (try with_reducible refine iC ?_)))
    refine ⟨_, _, jx (und := und) (m := m1.2) (a0 := up1 a0) (r := up1 r) (eqs_up ha hr hne (by simp only [go_sem, fN, ↓gI, ↓pI, seval, eT, iR, a4, a6, a8, hne]) (by simp only [go_sem, fN, ↓gI, ↓pI, seval, eT, iR, r4, r6, r8])) hc.2 (fun t ht => ⟨(hu t ht).1.more h2, (hu t ht).2⟩) (by omega) (by omega) (by omega) (by omega) h1, ?_⟩
    generalize hm2 : (x.ty und m1.2) = m2 at *
    repeat' (first | (with_reducible first | refine W ?_ | refine Wk (by decide) ?_) | ((with_reducible first | refine Wo (fun K hK => ?_) | refine Wp ?_ | refine Wq ?_ | refine Wr ?_); (try simp only [go_sem, fN, ↓gI, ↓pI, seval, eT, iR, eqS, k4, k6, k8, k9, b4, b6, b8, b9, a4, a6, a8, c4, c6, c8, c9, dT, dF, nL]); (repeat with_reducible refine And.intro (by first | omega | exact lens | (simp [maxLen_eq] <;> omega)) ?_); (try (refine hK _ ?_; clear hK K)); (try with_reducible refine iC ?_)))
    refine ⟨_, _, fresh_S (n := m2.2.2) (c := .row (up1 r) m2.2.1.length) (up1_le a0) (high_row (up1_le r)) (by omega) (by rw [upS_up]; (simp only [go_sem, fN, ↓gI, ↓pI, seval, eT, iR, a4, a6, a8, a9, hne])), ?_⟩
    have hx1 : m2.2.1.length + 1 ≤ maxLen := by rw [maxLen_eq]; omega
    repeat' (first | (with_reducible first | refine W ?_ | refine Wk (by decide) ?_) | refine Cg _ (arrow_a _ _) ?_ | ((with_reducible first | refine Wo (fun K hK => ?_) | refine Wp ?_ | refine Wq ?_ | refine Wr ?_); (try simp only [go_sem, fN, ↓gI, ↓pI, seval, eT, iR, k4, k6, k8, k9, k10, b4, b6, b8, b9, b10, a4, a6, a8, a9, hne, hne2, c4, c6, c8, c9, c10, a10, r4, r6, r8, r9, r10, hx1, dT, dF, nL]); (repeat with_reducible refine And.intro (by first | omega | exact lens | (simp [maxLen_eq] <;> omega)) ?_); (try (refine hK _ ?_; clear hK K)); (try with_reducible refine iC ?_)))
    have hty : (UL.a f x).ty und m = (tvar (m2.2.2 + 1), (m2.2.1 ++ [(m1.1, arrT m2.1 (tvar (m2.2.2 + 1)))], m2.2.2 + 1)) := by rw [UL.ty, hm1, hm2]
    rw [hty]
    refine eqs_end h (aTm (tvar (m2.2.2 + 1))) hS trivial ?_ ?_ ?_ ?_ fun i hi i1 i2 => ?_
    · simp only [go_sem, fN, ↓gI, ↓pI, seval, eT, iR, resAll, resOne, tupV, b6, c6]
    · simp only [go_sem, fN, ↓gI, ↓pI, seval, eT, iR]
      try rfl
    · simp only [go_sem, fN, ↓gI, ↓pI, seval, eT, iR, a4, a6, a8, a9, a10, hne]
      try simp
    · simp only [go_sem, fN, ↓gI, ↓pI, seval, eT, iR, r4, r6, r8, r9, r10, hne2]
      try simp [encP]
    · have i4 : ¬ i = 4 := by omega
      have i6 : ¬ i = 6 := by omega
      have i8 : ¬ i = 8 := by omega
      have i9 : ¬ i = 9 := by omega
      have i10 : ¬ i = 10 := by omega
      simp only [go_sem, fN, ↓gI, ↓pI, seval, eT, iR, i1, i2, i4, i6, i8, i9, i10]
set_option maxHeartbeats 8000000 in
theorem ofR_S (K : Nat) (hK : K ≤ 5000) (x : UL) : ∀ {und : List Tm} {m : List Pr × Nat} {a0 r : Nat} {S : AStore}, Eqs 66 S a0 r m → x.closed und.length → (∀ t ∈ und, inT m.2 t ∧ t.size = 1) → 2 * x.sz + 2 ≤ K → m.2 + x.sz < 800000 → m.1.length + x.sz ≤ 100000 → und.length + x.sz ≤ 100000 → TyOk K m →
    ACallsS Tryz.prog 37 [.one (.ptr a0 1 0 0), aLm x.lm, aTms und] S (aTm (x.ty und m).1) (eqS 66 S a0 r (x.ty und m).2) := by
  induction x with
  | v i =>
    intro und m a0 r S h hc hu hK hn hl1 hl2 hm
    have hc : i < und.length := hc
    obtain ⟨t, ht⟩ := get_lt (show und.length - 1 - i < und.length by omega)
    rw [ty_v i und m ht]
    have hbox := h.box
    have hrow := h.row
    have ha := h.ha
    have hr := h.hr
    have e1 : ((und.length : Int) - 1 - (i : Int)) = ((und.length - 1 - i : Nat) : Int) := by omega
    refine acS_metaprune_R_typing_of (Nat.le_of_ble_eq_true rfl) fun hS C hC => ?_
    have k4 : S 4 = none := clean_none hS (by omega)
    have k6 : S 6 = none := clean_none hS (by omega)
    unfold ir_metaprune_R_typing_of
    repeat' (first | (with_reducible first | refine W ?_ | refine Wk (by decide) ?_) | ((with_reducible first | refine Wo (fun K hK => ?_) | refine Wp ?_ | refine Wq ?_ | refine Wr ?_); (try simp only [go_sem, fN, ↓gI, ↓pI, seval, eT, iR, k4, k6, e1, ht, dT, dF, nL]); (repeat with_reducible refine And.intro (by first | omega | exact lens | (simp [maxLen_eq] <;> omega)) ?_); (try (refine hK _ ?_; clear hK K)); (try with_reducible refine iC ?_)))
    have a4 : ¬ a0 = 4 := by omega
    have a6 : ¬ a0 = 6 := by omega
    have r4 : ¬ r = 4 := by omega
    have r6 : ¬ r = 6 := by omega
    refine eqs_end h (aTm t) hS trivial ?_ ?_ ?_ ?_ fun i hi i1 i2 => ?_
    · simp only [go_sem, fN, ↓gI, ↓pI, seval, eT, iR, resAll, resOne, tupV]
    · simp only [go_sem, fN, ↓gI, ↓pI, seval, eT, iR]
      try rfl
    · simp only [go_sem, fN, ↓gI, ↓pI, seval, eT, iR, a4, a6, hbox]
    · simp only [go_sem, fN, ↓gI, ↓pI, seval, eT, iR, r4, r6, hrow]
    · have i4 : ¬ i = 4 := by omega
      have i6 : ¬ i = 6 := by omega
      simp only [go_sem, fN, ↓gI, ↓pI, seval, eT, iR, i4, i6]
  | l b ib =>
    intro und m a0 r S h hc hu hK hn hl1 hl2 hm
    have hbox := h.box
    have hrow := h.row
    have ha := h.ha
    have hr := h.hr
    have hne := h.ne
    have hne2 : ¬ r = a0 := fun e => hne e.symm
    simp only [UL.sz] at hK hn hl1 hl2
    have hv : inT (m.2 + 1) (tvar (m.2 + 1)) := inT_var (by omega) (by omega) (by omega)
    refine acS_metaprune_R_typing_of (Nat.le_of_ble_eq_true rfl) fun hS C hC => ?_
    have k4 : S 4 = none := clean_none hS (by omega)
    have k6 : S 6 = none := clean_none hS (by omega)
    have k7 : S 7 = none := clean_none hS (by omega)
    have k8 : S 8 = none := clean_none hS (by omega)
    have k36 : S 36 = none := clean_none hS (by omega)
    unfold ir_metaprune_R_typing_of
    have a4 : ¬ a0 = 4 := by omega
    have a6 : ¬ a0 = 6 := by omega
    have a7 : ¬ a0 = 7 := by omega
    have a8 : ¬ a0 = 8 := by omega
    have a36 : ¬ a0 = 36 := by omega
    have r4 : ¬ r = 4 := by omega
    have r6 : ¬ r = 6 := by omega
    have r7 : ¬ r = 7 := by omega
    have r8 : ¬ r = 8 := by omega
    have r36 : ¬ r = 36 := by omega
    have b4 : ¬ 4 = a0 := by omega
    have b6 : ¬ 6 = a0 := by omega
    have b7 : ¬ 7 = a0 := by omega
    have b8 : ¬ 8 = a0 := by omega
    have b36 : ¬ 36 = a0 := by omega
    have c4 : ¬ 4 = r := by omega
    have c6 : ¬ 6 = r := by omega
    have c7 : ¬ 7 = r := by omega
    have c8 : ¬ 8 = r := by omega
    have c36 : ¬ 36 = r := by omega
    repeat' (first | (with_reducible first | refine W ?_ | refine Wk (by decide) ?_) | ((with_reducible first | refine Wo (fun K hK => ?_) | refine Wp ?_ | refine Wq ?_ | refine Wr ?_); (try simp only [go_sem, fN, ↓gI, ↓pI, seval, eT, iR, k4, k6, k7, dT, dF, nL]); (repeat with_reducible refine And.intro (by first | omega | exact lens | (simp [maxLen_eq] <;> omega)) ?_); (try (refine hK _ ?_; clear hK K)); (try with_reducible refine iC ?_)))
    refine ⟨_, _, freshR_S (n := m.2) (c := .row (up1 r) m.1.length) (up1_le a0) (high_row (up1_le r)) (by omega) (by rw [upS_up]; (simp only [go_sem, fN, ↓gI, ↓pI, seval, eT, iR, a4, a6, hbox])), ?_⟩
    have hl999 : und.length ≤ maxLen := by rw [maxLen_eq]; omega
    have hl1000 : und.length + 1 ≤ maxLen := by rw [maxLen_eq]; omega
    repeat' (first | (with_reducible first | refine W ?_ | refine Wk (by decide) ?_) | ((with_reducible first | refine Wo (fun K hK => ?_) | refine Wp ?_ | refine Wq ?_ | refine Wr ?_); (try simp only [go_sem, fN, ↓gI, ↓pI, seval, eT, iR, k4, k6, k7, b4, b6, b7, b36, a4, a6, a7, a36, k36, hl999, hl1000, List.nil_append, dT, dF, nL]); (repeat with_reducible refine And.intro (by first | omega | exact lens | (simp [maxLen_eq] <;> omega)) ?_); (try (refine hK _ ?_; clear hK K)); (try with_reducible refine iC ?_)))
    refine ⟨aTm (b.ty (und ++ [tvar (m.2 + 1)]) (m.1, m.2 + 1)).1, [(36, .arow 69 2 ((und ++ [tvar (m.2 + 1)]).map encT), .arow 69 2 ((und ++ [tvar (m.2 + 1)]).map encT)), (a0, .box 66 [.row r m.1.length, .st (.int .i64 ((m.2 + 1 : Nat) : Int))], .box 66 [.row r (b.ty (und ++ [tvar (m.2 + 1)]) (m.1, m.2 + 1)).2.1.length, .st (.int .i64 ((b.ty (und ++ [tvar (m.2 + 1)]) (m.1, m.2 + 1)).2.2 : Int))]), (r, .arow 114 4 (m.1.map encP), .arow 114 4 ((b.ty (und ++ [tvar (m.2 + 1)]) (m.1, m.2 + 1)).2.1.map encP))], ?_, fun T hT => ?_, ?_⟩
    · intro q hq
      simp only [List.mem_cons, List.not_mem_nil, or_false] at hq
      rcases hq with rfl | rfl | rfl
      · simp only [go_sem, fN, ↓gI, ↓pI, seval, eT, iR, b36, k36, List.map_append, List.map_cons, List.map_nil]
        try rfl
      · simp only [go_sem, fN, ↓gI, ↓pI, seval, eT, iR, a4, a6, a7, a36, hbox]
        try rfl
      · simp only [go_sem, fN, ↓gI, ↓pI, seval, eT, iR, r4, r6, r7, r36, hne2, hrow]
    · have t36 : T 36 = some (.arow 69 2 ((und ++ [tvar (m.2 + 1)]).map encT)) := hT (36, _, _) List.mem_cons_self
      have ta : T a0 = some (.box 66 [.row r m.1.length, .st (.int .i64 ((m.2 + 1 : Nat) : Int))]) := hT (a0, _, _) (List.mem_cons_of_mem _ List.mem_cons_self)
      have tr : T r = some (.arow 114 4 (m.1.map encP)) := hT (r, _, _) (List.mem_cons_of_mem _ (List.mem_cons_of_mem _ List.mem_cons_self))
      have hsame : updE T 36 (some (.arow 69 2 ((und ++ [tvar (m.2 + 1)]).map encT))) = T := by
        funext k
        unfold updE
        split
        · rename_i e; rw [e, t36]
        · rfl
      show ACallsS _ _ _ _ _ (upS (updE (updE (updE T 36 _) a0 (some _)) r (some _)))
      rw [hsame, upS_set, upS_set]
      exact acallsS_told (e := 69) (wd := 2) (xs := (und ++ [tvar (m.2 + 1)]).map encT) (by rw [upS_some t36]; rfl) (by simp) (ib (und := und ++ [tvar (m.2 + 1)]) (m := (m.1, m.2 + 1)) (a0 := up1 a0) (r := up1 r) (eqs_up ha hr hne ta tr) (by rw [List.length_append]; exact hc) (fun t ht => by
      rcases List.mem_append.1 ht with ht | ht
      · exact ⟨(hu t ht).1.more (by simp), (hu t ht).2⟩
      · rw [List.mem_singleton] at ht
        subst ht
        exact ⟨hv, rfl⟩) (by omega) (by show m.2 + 1 + b.sz < _; omega) (by show m.1.length + b.sz ≤ _; omega) (by rw [List.length_append, List.length_singleton]; omega) (TyOk.more (m := m.2) hm (by omega)))
    repeat' (first | (with_reducible first | refine W ?_ | refine Wk (by decide) ?_) | refine Cg _ (arrowR_a _ _) ?_ | ((with_reducible first | refine Wo (fun K hK => ?_) | refine Wp ?_ | refine Wq ?_ | refine Wr ?_); (try simp only [go_sem, fN, ↓gI, ↓pI, seval, eT, iR, k4, k6, k7, k8, b4, b6, b7, b8, b36, a4, a6, a7, k36, c4, c6, c7, c8, dT, dF, nL]); (repeat with_reducible refine And.intro (by first | omega | exact lens | (simp [maxLen_eq] <;> omega)) ?_); (try (refine hK _ ?_; clear hK K)); (try with_reducible refine iC ?_)))
    show FinS _ _ (aTm (arrT (tvar (m.2 + 1)) (b.ty (und ++ [tvar (m.2 + 1)]) (m.1, m.2 + 1)).1)) (eqS 66 S a0 r (b.ty (und ++ [tvar (m.2 + 1)]) (m.1, m.2 + 1)).2) _ _
    refine eqs_end h (aTm (arrT (tvar (m.2 + 1)) (b.ty (und ++ [tvar (m.2 + 1)]) (m.1, m.2 + 1)).1)) hS trivial ?_ ?_ ?_ ?_ fun i hi i1 i2 => ?_
    · simp only [go_sem, fN, ↓gI, ↓pI, seval, eT, iR, resAll, resOne, tupV, b6, c6]
    · simp only [go_sem, fN, ↓gI, ↓pI, seval, eT, iR]
      try rfl
    · simp only [go_sem, fN, ↓gI, ↓pI, seval, eT, iR, a4, a6, a7, a8, a36, hne]
    · simp only [go_sem, fN, ↓gI, ↓pI, seval, eT, iR, r4, r6, r7, r8, r36]
    · have i4 : ¬ i = 4 := by omega
      have i6 : ¬ i = 6 := by omega
      have i7 : ¬ i = 7 := by omega
      have i8 : ¬ i = 8 := by omega
      have i36 : ¬ i = 36 := by omega
      simp only [go_sem, fN, ↓gI, ↓pI, seval, eT, iR, i1, i2, i4, i6, i7, i8, i36]
  | a f x jf jx =>
    intro und m a0 r S h hc hu hK hn hl1 hl2 hm
    have hbox := h.box
    have hrow := h.row
    have ha := h.ha
    have hr := h.hr
    have hne := h.ne
    have hne2 : ¬ r = a0 := fun e => hne e.symm
    simp only [UL.sz] at hK hn hl1 hl2
    obtain ⟨h1, h2, h3, h4, h5, h6⟩ := ty_ok K f und m hc.1 hu (by omega) (by omega) hm
    obtain ⟨j1, j2, j3, j4, j5, j6⟩ := ty_ok K x und (f.ty und m).2 hc.2 (fun t ht => ⟨(hu t ht).1.more h2, (hu t ht).2⟩) (by omega) (by omega) h1
    refine acS_metaprune_R_typing_of (Nat.le_of_ble_eq_true rfl) fun hS C hC => ?_
    have k4 : S 4 = none := clean_none hS (by omega)
    have k6 : S 6 = none := clean_none hS (by omega)
    have k9 : S 9 = none := clean_none hS (by omega)
    have k10 : S 10 = none := clean_none hS (by omega)
    have k11 : S 11 = none := clean_none hS (by omega)
    unfold ir_metaprune_R_typing_of
    have a4 : ¬ a0 = 4 := by omega
    have a6 : ¬ a0 = 6 := by omega
    have a9 : ¬ a0 = 9 := by omega
    have a10 : ¬ a0 = 10 := by omega
    have a11 : ¬ a0 = 11 := by omega
    have r4 : ¬ r = 4 := by omega
    have r6 : ¬ r = 6 := by omega
    have r9 : ¬ r = 9 := by omega
    have r10 : ¬ r = 10 := by omega
    have r11 : ¬ r = 11 := by omega
    have b4 : ¬ 4 = a0 := by omega
    have b6 : ¬ 6 = a0 := by omega
    have b9 : ¬ 9 = a0 := by omega
    have b10 : ¬ 10 = a0 := by omega
    have b11 : ¬ 11 = a0 := by omega
    have c4 : ¬ 4 = r := by omega
    have c6 : ¬ 6 = r := by omega
    have c9 : ¬ 9 = r := by omega
    have c10 : ¬ 10 = r := by omega
    have c11 : ¬ 11 = r := by omega
    repeat' (first | (with_reducible first | refine W ?_ | refine Wk (by decide) ?_) | ((with_reducible first | refine Wo (fun K hK => ?_) | refine Wp ?_ | refine Wq ?_ | refine Wr ?_); (try simp only [go_sem, fN, ↓gI, ↓pI, seval, eT, iR, k4, k6, dT, dF, nL]); (repeat with_reducible refine And.intro (by first | omega | exact lens | (simp [maxLen_eq] <;> omega)) ?_); (try (refine hK _ ?_; clear hK K)); (try with_reducible refine iC ?_)))
    refine ⟨_, _, jf (und := und) (m := m) (a0 := up1 a0) (r := up1 r) (eqs_up ha hr hne (by simp only [go_sem, fN, ↓gI, ↓pI, seval, eT, iR, a4, a6, hbox]) (by simp only [go_sem, fN, ↓gI, ↓pI, seval, eT, iR, r4, r6, hrow])) hc.1 hu (by omega) (by omega) (by omega) (by omega) hm, ?_⟩
    generalize hm1 : (f.ty und m) = m1 at *
    repeat' (first | (with_reducible first | refine W ?_ | refine Wk (by decide) ?_) | ((with_reducible first | refine Wo (fun K hK => ?_) | refine Wp ?_ | refine Wq ?_ | refine Wr ?_); (try simp only [go_sem, fN, ↓gI, ↓pI, seval, eT, iR, eqS, k4, k6, k9, b4, b6, b9, a4, a6, c4, c6, c9, dT, dF, nL]); (repeat with_reducible refine And.intro (by first | omega | exact lens | (simp [maxLen_eq] <;> omega)) ?_); (try (refine hK _ ?_; clear hK K)); (try with_reducible refine iC ?_)))
    refine ⟨_, _, jx (und := und) (m := m1.2) (a0 := up1 a0) (r := up1 r) (eqs_up ha hr hne (by simp only [go_sem, fN, ↓gI, ↓pI, seval, eT, iR, a4, a6, a9, hne]) (by simp only [go_sem, fN, ↓gI, ↓pI, seval, eT, iR, r4, r6, r9])) hc.2 (fun t ht => ⟨(hu t ht).1.more h2, (hu t ht).2⟩) (by omega) (by omega) (by omega) (by omega) h1, ?_⟩
    generalize hm2 : (x.ty und m1.2) = m2 at *
    repeat' (first | (with_reducible first | refine W ?_ | refine Wk (by decide) ?_) | ((with_reducible first | refine Wo (fun K hK => ?_) | refine Wp ?_ | refine Wq ?_ | refine Wr ?_); (try simp only [go_sem, fN, ↓gI, ↓pI, seval, eT, iR, eqS, k4, k6, k9, k10, b4, b6, b9, b10, a4, a6, a9, c4, c6, c9, c10, dT, dF, nL]); (repeat with_reducible refine And.intro (by first | omega | exact lens | (simp [maxLen_eq] <;> omega)) ?_); (try (refine hK _ ?_; clear hK K)); (try with_reducible refine iC ?_)))
    refine ⟨_, _, freshR_S (n := m2.2.2) (c := .row (up1 r) m2.2.1.length) (up1_le a0) (high_row (up1_le r)) (by omega) (by rw [upS_up]; (simp only [go_sem, fN, ↓gI, ↓pI, seval, eT, iR, a4, a6, a9, a10, hne])), ?_⟩
    have hx1 : m2.2.1.length + 1 ≤ maxLen := by rw [maxLen_eq]; omega
    repeat' (first | (with_reducible first | refine W ?_ | refine Wk (by decide) ?_) | refine Cg _ (arrowR_a _ _) ?_ | ((with_reducible first | refine Wo (fun K hK => ?_) | refine Wp ?_ | refine Wq ?_ | refine Wr ?_); (try simp only [go_sem, fN, ↓gI, ↓pI, seval, eT, iR, k4, k6, k9, k10, k11, b4, b6, b9, b10, b11, a4, a6, a9, a10, hne, hne2, c4, c6, c9, c10, c11, a11, r4, r6, r9, r10, r11, hx1, dT, dF, nL]); (repeat with_reducible refine And.intro (by first | omega | exact lens | (simp [maxLen_eq] <;> omega)) ?_); (try (refine hK _ ?_; clear hK K)); (try with_reducible refine iC ?_)))
    have hty : (UL.a f x).ty und m = (tvar (m2.2.2 + 1), (m2.2.1 ++ [(m1.1, arrT m2.1 (tvar (m2.2.2 + 1)))], m2.2.2 + 1)) := by rw [UL.ty, hm1, hm2]
    rw [hty]
    refine eqs_end h (aTm (tvar (m2.2.2 + 1))) hS trivial ?_ ?_ ?_ ?_ fun i hi i1 i2 => ?_
    · simp only [go_sem, fN, ↓gI, ↓pI, seval, eT, iR, resAll, resOne, tupV, b6, c6]
    · simp only [go_sem, fN, ↓gI, ↓pI, seval, eT, iR]
      try rfl
    · simp only [go_sem, fN, ↓gI, ↓pI, seval, eT, iR, a4, a6, a9, a10, a11, hne]
      try simp
    · simp only [go_sem, fN, ↓gI, ↓pI, seval, eT, iR, r4, r6, r9, r10, r11, hne2]
      try simp [encP]
    · have i4 : ¬ i = 4 := by omega
      have i6 : ¬ i = 6 := by omega
      have i9 : ¬ i = 9 := by omega
      have i10 : ¬ i = 10 := by omega
      have i11 : ¬ i = 11 := by omega
      simp only [go_sem, fN, ↓gI, ↓pI, seval, eT, iR, i1, i2, i4, i6, i9, i10, i11]
end Go.Proofs.YtehnjhkndbcmgaaGreatDoor

namespace Go.Proofs.YtehnjhkndbcmgaaGreatDoor
open Go Go.RowKit
set_option linter.unusedVariables false
set_option linter.unusedSimpArgs false
set_option maxHeartbeats 2000000
def entI (k : Nat) : List ByteArray → List (KV × AV)
  | [] => []
  | n :: l => (.s n, aInt k) :: entI (k + 1) l
abbrev mapI (l : List ByteArray) : ABlk := .map none (entI 0 l)
theorem entI_len : ∀ (l : List ByteArray) (k : Nat), (entI k l).length = l.length
  | [], _ => rfl
  | n :: l, k => by rw [entI, List.length_cons, List.length_cons, entI_len l]
theorem mGet_entI : ∀ (l : List ByteArray) (k : Nat) (n : ByteArray), mGet (entI k l) (.s n) = if posN l n < l.length then some (aInt ((k + posN l n : Nat) : Int)) else none
  | [], k, n => by simp [entI, mGet, posN]
  | x :: l, k, n => by
    rw [entI, mGet, posN]
    by_cases e : x = n
    · rw [if_pos (congrArg KV.s e), if_pos e]
      simp
    · rw [if_neg (fun h => e (KV.s.inj h)), if_neg e, mGet_entI l (k + 1) n, List.length_cons]
      by_cases h : posN l n < l.length
      · rw [if_pos h, if_pos (by omega), show k + 1 + posN l n = k + (posN l n + 1) by omega]
      · rw [if_neg h, if_neg (by omega)]
theorem mPut_entI : ∀ {l : List ByteArray} {k : Nat} {n : ByteArray}, ¬ posN l n < l.length → ∀ v, mPut (entI k l) (.s n) v = entI k l ++ [(.s n, v)]
  | [], k, n, h, v => rfl
  | x :: l, k, n, h, v => by
    rw [posN] at h
    by_cases e : x = n
    · rw [if_pos e] at h; simp at h
    · rw [if_neg e] at h
      rw [entI, mPut, if_neg (fun h => e (KV.s.inj h)), mPut_entI (by simpa using h), List.cons_append]
theorem entI_snoc : ∀ (l : List ByteArray) (k : Nat) (n : ByteArray), entI k (l ++ [n]) = entI k l ++ [(.s n, aInt ((k + l.length : Nat) : Int))]
  | [], k, n => by simp [entI]
  | x :: l, k, n => by
    rw [List.cons_append, entI, entI_snoc l (k + 1) n, entI, List.cons_append, List.length_cons, show k + 1 + l.length = k + (l.length + 1) by omega]
theorem lookI_in {l : List ByteArray} {n : ByteArray} (ok : Bool) (h : posN l n < l.length) : lookA ok (aInt 0) (mGet (entI 0 l) (.s n)) = if ok then .tup [aInt (posN l n), aBool true] else aInt (posN l n) := by
  rw [mGet_entI, if_pos h, Nat.zero_add]
  rfl
theorem lookI_out {l : List ByteArray} {n : ByteArray} (ok : Bool) (h : ¬ posN l n < l.length) : lookA ok (aInt 0) (mGet (entI 0 l) (.s n)) = if ok then .tup [aInt 0, aBool false] else aInt 0 := by
  rw [mGet_entI, if_neg h]
  rfl
theorem putI_out {l : List ByteArray} {n : ByteArray} (h : ¬ posN l n < l.length) : mPut (entI 0 l) (.s n) (aInt l.length) = entI 0 (addN l n) := by
  rw [mPut_entI h, show addN l n = l ++ [n] by unfold addN; rw [if_neg h], entI_snoc, Nat.zero_add]
theorem back_S {t : Tm} (ht : TT t) : ∀ {l : List ByteArray} {a0 : Nat} {S : AStore}, 1000 ≤ a0 → l.length + t.size ≤ 1000000 → S a0 = some (mapI l) →
    ACallsS Tryz.prog 47 [aTm t, .one (.mptr a0)] S (aTy (t.bk l).1.ty) (updE S a0 (some (mapI (t.bk l).2))) := by
  induction ht with
  | @v n h1 h2 =>
    intro l a0 S ha hl hSa
    rw [bk_leaf]
    have hel := entI_len l 0
    have hlm : l.length ≤ maxLen := by rw [maxLen_eq]; simp only [Tm.size] at hl; omega
    have a2 : ¬ a0 = 2 := by omega
    have a4 : ¬ a0 = 4 := by omega
    have b2 : ¬ 2 = a0 := by omega
    have b4 : ¬ 4 = a0 := by omega
    refine acS_infer_back (Nat.le_of_ble_eq_true rfl) fun hS C hC => ?_
    have k2 : S 2 = none := clean_none hS (by omega)
    have k4 : S 4 = none := clean_none hS (by omega)
    unfold ir_infer_back
    by_cases hp : posN l n < l.length
    · have hadd : addN l n = l := by unfold addN; rw [if_pos hp]
      rw [hadd]
      have q1 := lookI_in true hp
      have q2 := lookI_in false hp
      repeat' (first | (with_reducible first | refine W ?_ | refine Wk (by decide) ?_) | ((with_reducible first | refine Wo (fun K hK => ?_) | refine Wp ?_ | refine Wq ?_ | refine Wr ?_); (try simp only [go_sem, fN, ↓gI, ↓pI, seval, eT, iR, k2, k4, a2, a4, b2, b4, hSa, mapOf, keyOf, KV.of, q1, q2, dT, dF, nL]); (repeat with_reducible refine And.intro (by first | omega | exact lens | (simp [maxLen_eq] <;> omega)) ?_); (try (refine hK _ ?_; clear hK K)); (try with_reducible refine iC ?_)))
      refine finS_one (.agg [.st (.int .i64 (posN l n : Int)), .full []]) hS ha rfl trivial ?_ ?_ ?_ fun i hi hne => ?_
      · simp only [go_sem, fN, ↓gI, ↓pI, seval, eT, iR, resAll, resOne, tupV]
      · simp only [go_sem, fN, ↓gI, ↓pI, seval, eT, iR]
        rfl
      · simp only [go_sem, fN, ↓gI, ↓pI, seval, eT, iR, a2, a4, hSa]
      · have i2 : ¬ i = 2 := by omega
        have i4 : ¬ i = 4 := by omega
        simp only [go_sem, fN, ↓gI, ↓pI, seval, eT, iR, i2, i4]
    · have hpn : posN l n = l.length := by have := posN_le l n; omega
      have hp2 : posN (addN l n) n < (addN l n).length := by
        unfold addN
        rw [if_neg hp, posN_snoc hp, List.length_append, List.length_singleton]
        omega
      have hp3 : posN (addN l n) n = l.length := by
        unfold addN
        rw [if_neg hp, posN_snoc hp]
      have q1 := lookI_out true hp
      have q2 := lookI_in false hp2
      rw [hp3] at q2
      have q3 := putI_out hp
      repeat' (first | (with_reducible first | refine W ?_ | refine Wk (by decide) ?_) | ((with_reducible first | refine Wo (fun K hK => ?_) | refine Wp ?_ | refine Wq ?_ | refine Wr ?_); (try simp only [go_sem, fN, ↓gI, ↓pI, seval, eT, iR, k2, k4, a2, a4, b2, b4, hSa, mapOf, keyOf, KV.of, q1, q2, q3, hel, hlm, dT, dF, nL]); (repeat with_reducible refine And.intro (by first | omega | exact lens | (simp [maxLen_eq] <;> omega)) ?_); (try (refine hK _ ?_; clear hK K)); (try with_reducible refine iC ?_)))
      rw [hpn]
      refine finS_one (.agg [.st (.int .i64 (l.length : Int)), .full []]) hS ha rfl trivial ?_ ?_ ?_ fun i hi hne => ?_
      · simp only [go_sem, fN, ↓gI, ↓pI, seval, eT, iR, resAll, resOne, tupV, a2, a4, b2, b4]
      · simp only [go_sem, fN, ↓gI, ↓pI, seval, eT, iR]
        rfl
      · simp only [go_sem, fN, ↓gI, ↓pI, seval, eT, iR, a2, a4, hSa]
      · have i2 : ¬ i = 2 := by omega
        have i4 : ¬ i = 4 := by omega
        simp only [go_sem, fN, ↓gI, ↓pI, seval, eT, iR, i2, i4, hne]
  | @f x y tx ty ix iy =>
    intro l a0 S ha hl hSa
    rw [bk_arr]
    rw [arrT_size] at hl
    have hg := bk_vars tx l
    have hlen : (x.bk l).2.length ≤ l.length + x.size := by rw [hg]; have := addVars_length x.knots l; rw [Tm.knots_length] at this; exact this
    have a2 : ¬ a0 = 2 := by omega
    have a4 : ¬ a0 = 4 := by omega
    have a7 : ¬ a0 = 7 := by omega
    have b2 : ¬ 2 = a0 := by omega
    have b4 : ¬ 4 = a0 := by omega
    have b7 : ¬ 7 = a0 := by omega
    refine acS_infer_back (Nat.le_of_ble_eq_true rfl) fun hS C hC => ?_
    have k2 : S 2 = none := clean_none hS (by omega)
    have k4 : S 4 = none := clean_none hS (by omega)
    have k7 : S 7 = none := clean_none hS (by omega)
    unfold ir_infer_back
    have n1 : (arrT x y).name = fS := rfl
    have n2 : (arrT x y).args = [x, y] := rfl
    repeat' (first | (with_reducible first | refine W ?_ | refine Wk (by decide) ?_) | ((with_reducible first | refine Wo (fun K hK => ?_) | refine Wp ?_ | refine Wq ?_ | refine Wr ?_); (try simp only [go_sem, fN, ↓gI, ↓pI, seval, eT, iR, k2, k4, k7, a2, a4, a7, b2, b4, b7, hSa, n1, n2, dT, dF, nL]); (repeat with_reducible refine And.intro (by first | omega | exact lens | (simp [maxLen_eq] <;> omega)) ?_); (try (refine hK _ ?_; clear hK K)); (try with_reducible refine iC ?_)))
    refine ⟨_, _, ix (l := l) (a0 := up1 a0) (up1_le _) (by omega) (by rw [upS_up]; (simp only [go_sem, fN, ↓gI, ↓pI, seval, eT, iR, a2, a4, hSa])), ?_⟩
    repeat' (first | (with_reducible first | refine W ?_ | refine Wk (by decide) ?_) | ((with_reducible first | refine Wo (fun K hK => ?_) | refine Wp ?_ | refine Wq ?_ | refine Wr ?_); (try simp only [go_sem, fN, ↓gI, ↓pI, seval, eT, iR, k2, k4, k7, a2, a4, a7, b2, b4, b7, hSa, dT, dF, nL]); (repeat with_reducible refine And.intro (by first | omega | exact lens | (simp [maxLen_eq] <;> omega)) ?_); (try (refine hK _ ?_; clear hK K)); (try with_reducible refine iC ?_)))
    refine ⟨_, _, iy (l := (x.bk l).2) (a0 := up1 a0) (up1_le _) (by omega) (by rw [upS_up]; (simp only [go_sem, fN, ↓gI, ↓pI, seval, eT, iR, a2, a4, a7])), ?_⟩
    repeat' (first | (with_reducible first | refine W ?_ | refine Wk (by decide) ?_) | ((with_reducible first | refine Wo (fun K hK => ?_) | refine Wp ?_ | refine Wq ?_ | refine Wr ?_); (try simp only [go_sem, fN, ↓gI, ↓pI, seval, eT, iR, k2, k4, k7, a2, a4, a7, b2, b4, b7, dT, dF, nL]); (repeat with_reducible refine And.intro (by first | omega | exact lens | (simp [maxLen_eq] <;> omega)) ?_); (try (refine hK _ ?_; clear hK K)); (try with_reducible refine iC ?_)))
    refine finS_one (.agg [.st (.int .i64 0), .full [encY (x.bk l).1.ty, encY (y.bk (x.bk l).2).1.ty]]) hS ha rfl trivial ?_ ?_ ?_ fun i hi hne => ?_
    · simp only [go_sem, fN, ↓gI, ↓pI, seval, eT, iR, resAll, resOne, tupV, b2, b4]
    · simp only [go_sem, fN, ↓gI, ↓pI, seval, eT, iR]
      show _ = AV.agg [.st (.int .i64 0), .st (.list [encY (x.bk l).1.ty, encY (y.bk (x.bk l).2).1.ty])]
      rw [encY_eq, encY_eq]
    · simp only [go_sem, fN, ↓gI, ↓pI, seval, eT, iR, a2, a4, a7]
    · have i2 : ¬ i = 2 := by omega
      have i4 : ¬ i = 4 := by omega
      have i7 : ¬ i = 7 := by omega
      simp only [go_sem, fN, ↓gI, ↓pI, seval, eT, iR, i2, i4, i7, hne]
theorem posN_get : ∀ {m : List ByteArray} {n x : ByteArray} {k : Nat}, m[k]? = some x → k ≤ posN m n → (x = n ↔ k = posN m n)
  | [], n, x, k, h, _ => by simp at h
  | y :: m, n, x, k, h, hk => by
    rw [posN] at hk ⊢
    by_cases e : y = n
    · rw [if_pos e] at hk ⊢
      obtain rfl : k = 0 := by omega
      simp at h
      subst h
      simp [e]
    · rw [if_neg e] at hk ⊢
      cases k with
      | zero =>
        simp at h
        subst h
        constructor
        · intro h; exact absurd h e
        · intro h; omega
      | succ k =>
        have := posN_get (m := m) (n := n) (k := k) (by simpa using h) (by omega)
        rw [this]
        omega
theorem asType_a {t : Tm} (ht : TT t) (m : List ByteArray) (hl : (t.asB m).low m.length) (hm : m.length ≤ 1000000) : ACalls Tryz.prog 40 [aTm t, aStrs m] (aTy (t.asB m).ty) := by
  induction ht with
  | @v n h1 h2 =>
    rw [asB_leaf] at hl ⊢
    have hl : posN m n < m.length := hl
    refine ac_R_AsType (Nat.le_of_ble_eq_true rfl) fun C hC => ?_
    unfold ir_R_AsType
    repeat' (first | (with_reducible first | refine W ?_ | refine Wk (by decide) ?_) | ((with_reducible first | refine Wo (fun K hK => ?_) | refine Wp ?_ | refine Wq ?_ | refine Wr ?_); (try simp only [go_sem, fN, ↓gI, ↓pI, seval, eT, iR, dT, dF, nL]); (repeat with_reducible refine And.intro (by first | omega | exact lens | (simp [maxLen_eq] <;> omega)) ?_); (try (refine hK _ ?_; clear hK K)); (try with_reducible refine iC ?_)))
    refine IWP.loopD [] (fun q s => ∃ k : Nat, k ≤ posN m n ∧ q = posN m n - k ∧ s.env 1 = aStrs m ∧ s.env 2 = .one (.ptr 2 1 0 0) ∧ s.env 4 = .one (.ptr 4 1 0 0) ∧ s.env 5 = aInt k ∧ s.S 2 = some (.box 69 [.st (.str n), .st (.list [])]) ∧ s.S 4 = some (.box 27 [.st (.int .i64 0), .full []])) (posN m n) ⟨0, Nat.zero_le _, rfl, rfl, rfl, rfl, rfl, rfl, rfl⟩ ?_
    rintro q ⟨env, S⟩ ⟨k, hk, rfl, e1, e2, e4, e5, s2, s4⟩
    simp only at e1 e2 e4 e5 s2 s4
    obtain ⟨x, hx⟩ := get_lt (show k < m.length by omega)
    have hiff := posN_get hx hk
    by_cases hxn : x = n
    · have hkp := hiff.1 hxn
      subst hxn
      repeat' (first | (with_reducible first | refine W ?_ | refine Wk (by decide) ?_) | ((with_reducible first | refine Wo (fun K hK => ?_) | refine Wp ?_ | refine Wq ?_ | refine Wr ?_); (try simp only [go_sem, fN, ↓gI, ↓pI, seval, eT, iR, e1, e2, e4, e5, s2, s4, hx, dT, dF, nL]); (repeat with_reducible refine And.intro (by first | omega | exact lens | (simp [maxLen_eq] <;> omega)) ?_); (try (refine hK _ ?_; clear hK K)); (try with_reducible refine iC ?_)))
      simp only [go_sem, fN, ↓gI, ↓pI, seval, FinQ, AS.result, resAll, resOne, tupV, e4, s4]
      rw [hkp]
      rfl
    · have hkp : ¬ k = posN m n := fun e => hxn (hiff.2 e)
      repeat' (first | (with_reducible first | refine W ?_ | refine Wk (by decide) ?_) | ((with_reducible first | refine Wo (fun K hK => ?_) | refine Wp ?_ | refine Wq ?_ | refine Wr ?_); (try simp only [go_sem, fN, ↓gI, ↓pI, seval, eT, iR, e1, e2, e4, e5, s2, s4, hx, hxn, dT, dF, nL]); (repeat with_reducible refine And.intro (by first | omega | exact lens | (simp [maxLen_eq] <;> omega)) ?_); (try (refine hK _ ?_; clear hK K)); (try with_reducible refine iC ?_)))
      refine then_normal ⟨posN m n - (k + 1), by omega, k + 1, by omega, rfl, ?_⟩
      simp only [go_sem, fN, ↓gI, ↓pI, seval, AS.drop, dropS, AC.clears, AC.clear, AC.highs, AC.high, Bool.not_false, Bool.true_and, Bool.and_self, AV.purge, AV.purges, AC.purge, ABlk.purge, List.contains_cons, List.contains_nil, Nat.reduceBEq, Bool.or_self, Bool.or_false, Bool.false_or, Bool.or_true, eT, iR, e1, e2, e4, e5, s2, s4]
      congr 3
  | @f x y tx ty ix iy =>
    rw [asB_arr] at hl ⊢
    have hx := ix hl.1
    have hy := iy hl.2
    have n1 : (arrT x y).name = fS := rfl
    have n2 : (arrT x y).args = [x, y] := rfl
    refine ac_R_AsType (Nat.le_of_ble_eq_true rfl) fun C hC => ?_
    unfold ir_R_AsType
    repeat' (first | (with_reducible first | refine W ?_ | refine Wk (by decide) ?_) | refine Cg _ (hx) ?_ | refine Cg _ (hy) ?_ | ((with_reducible first | refine Wo (fun K hK => ?_) | refine Wp ?_ | refine Wq ?_ | refine Wr ?_); (try simp only [go_sem, fN, ↓gI, ↓pI, seval, eT, iR, n1, n2, dT, dF, nL]); (repeat with_reducible refine And.intro (by first | omega | exact lens | (simp [maxLen_eq] <;> omega)) ?_); (try (refine hK _ ?_; clear hK K)); (try with_reducible refine iC ?_)))
    simp only [go_sem, fN, ↓gI, ↓pI, seval, FinQ, AS.result, resAll, resOne, tupV]
    show _ = AV.agg [.st (.int .i64 0), .st (.list [encY (x.asB m).ty, encY (y.asB m).ty])]
    rw [encY_eq, encY_eq]
end Go.Proofs.YtehnjhkndbcmgaaGreatDoor

namespace Go.Proofs.YtehnjhkndbcmgaaGreatDoor
open Go Go.RowKit
set_option maxRecDepth 100000
def ir_R_For : IR :=
  (.seq (.ops [.i 4 (.alloc 69 [.st (.str (ByteArray.mk (#[]))), .full []]), .i 5 (.mov (.c (.one (.st (.bool false)))))]) (.seq (.seq (.ops [.i 6 (.mov (.n 0))]) (.block 0 (.loop (.seq (.seq (.ops [.i 7 (.mov (.t 6)), .i 8 (.mov (.t 0)), .i 9 (.len false (.t 8)), .i 10 (.bin .lss (.t 7) (.t 9))]) (.cond (.t 10) .skip (.exit 0))) (.seq (.block 1 (.seq (.ops [.i 13 (.mov (.t 0)), .i 14 (.mov (.t 6)), .i 15 (.indexAddr 3 (.t 13) (.t 14)), .i 16 (.fieldAddr 0 (.t 15)), .i 17 (.load false 1 (.t 16)), .i 18 (.mov (.t 1)), .i 19 (.bin .eql (.t 17) (.t 18))]) (.cond (.t 19) (.seq (.ops [.i 20 (.mov (.t 0)), .i 21 (.mov (.t 6)), .i 22 (.indexAddr 3 (.t 20) (.t 21)), .i 23 (.fieldAddr 1 (.t 22)), .i 24 (.load true 2 (.t 23)), .mk none none (.store 2 (.t 4) (.t 24)) .no, .i 5 (.mov (.c (.one (.st (.bool true)))))]) .ret) .skip))) (.ops [.i 11 (.mov (.t 6)), .i 12 (.bin .add (.t 11) (.n 1)), .i 6 (.mov (.t 12))])))))) (.seq (.ops [.i 25 (.build [.st (.str (ByteArray.mk (#[]))), .full []] []), .mk none none (.store 2 (.t 4) (.t 25)) .no, .i 5 (.mov (.c (.one (.st (.bool false)))))]) .ret)))
theorem tr_R_For : trCode Tryz.prog 26 [] (Tryz.f104.body.getD .skip) = some ir_R_For := by kernel_rfl
theorem ac_R_For {xs : List AV} {r : AV} (hn : xs.length ≤ 26) (h : ∀ C : Ctx, C.n = 26 → IWP Tryz.prog C [] ir_R_For (FinQ [.cell 4 true 2, .t 5] r) (AS.start xs)) : ACalls Tryz.prog 104 xs r :=
  acalls_of Tryz.func104 rfl tr_R_For rfl hn h
def ir_R_grown : IR :=
  (.seq (.ops [.i 4 (.box 69 (.t 1)), .i 6 (.mov (.n 0))]) (.seq (.ops [.i 12 (.mov (.t 0)), .i 13 (.fieldAddr 0 (.t 4)), .i 14 (.load false 1 (.t 13)), .i 15 (.call 104 [.t 12, .t 14]), .i 11 (.mov (.t 15)), .i 16 (.extract 0 (.t 11)), .i 17 (.extract 1 (.t 11)), .i 7 (.alloc 69 [.st (.str (ByteArray.mk (#[]))), .full []]), .mk none none (.store 2 (.t 7) (.t 16)) .no, .i 8 (.mov (.t 17))]) (.seq (.seq (.ops [.i 18 (.mov (.t 8)), .i 19 (.mov (.t 18)), .mk (some 20) (some (19, true)) (.fieldAddr 1 (.t 4)) .no, .mk (some 21) (some (19, true)) (.load false 1 (.t 20)) .no, .mk (some 22) (some (19, true)) (.len false (.t 21)) .no, .mk (some 23) (some (19, true)) (.bin .eql (.t 22) (.n 0)) .no, .i 24 (.pick (.t 19) (.t 23) (.c (.one (.st (.bool false)))))]) (.cond (.t 24) (.seq (.ops [.i 25 (.load true 2 (.t 7)), .i 26 (.mov (.t 2)), .i 27 (.call 105 [.t 25, .t 26]), .i 6 (.mov (.t 27))]) .ret) .skip)) (.seq (.ops [.i 9 (.mov (.n 1))]) (.seq (.seq (.ops [.i 10 (.mov (.n 0))]) (.block 0 (.loop (.seq (.seq (.ops [.i 28 (.mov (.t 10)), .i 29 (.fieldAddr 1 (.t 4)), .i 30 (.load false 1 (.t 29)), .i 31 (.len false (.t 30)), .i 32 (.bin .lss (.t 28) (.t 31)), .i 33 (.mov (.t 32)), .mk (some 34) (some (33, true)) (.mov (.t 9)) .no, .mk (some 35) (some (33, true)) (.mov (.t 2)) .no, .mk (some 36) (some (33, true)) (.bin .leq (.t 34) (.t 35)) .no, .i 37 (.pick (.t 33) (.t 36) (.c (.one (.st (.bool false)))))]) (.cond (.t 37) .skip (.exit 0))) (.seq (.block 1 (.ops [.i 40 (.mov (.t 9)), .i 41 (.mov (.t 0)), .i 42 (.fieldAddr 1 (.t 4)), .i 43 (.load false 1 (.t 42)), .i 44 (.mov (.t 10)), .i 45 (.indexAddr 2 (.t 43) (.t 44)), .i 46 (.load true 2 (.t 45)), .i 47 (.mov (.t 2)), .i 48 (.mov (.t 9)), .i 49 (.bin .sub (.t 47) (.t 48)), .i 50 (.call 72 [.t 41, .t 46, .t 49]), .i 51 (.bin .add (.t 40) (.t 50)), .i 9 (.mov (.t 51))])) (.ops [.i 38 (.mov (.t 10)), .i 39 (.bin .add (.t 38) (.n 1)), .i 10 (.mov (.t 39))])))))) (.seq (.seq (.ops [.i 52 (.mov (.t 9)), .i 53 (.mov (.t 2)), .i 54 (.bin .gtr (.t 52) (.t 53))]) (.cond (.t 54) (.seq (.ops [.i 55 (.mov (.t 2)), .i 56 (.bin .add (.t 55) (.n 1)), .i 6 (.mov (.t 56))]) .ret) .skip)) (.seq (.ops [.i 57 (.mov (.t 9)), .i 6 (.mov (.t 57))]) .ret)))))))
theorem tr_R_grown : trCode Tryz.prog 58 [] (Tryz.f72.body.getD .skip) = some ir_R_grown := by kernel_rfl
theorem ac_R_grown {xs : List AV} {r : AV} (hn : xs.length ≤ 58) (h : ∀ C : Ctx, C.n = 58 → IWP Tryz.prog C [] ir_R_grown (FinQ [.t 6] r) (AS.start xs)) : ACalls Tryz.prog 72 xs r :=
  acalls_of Tryz.func72 rfl tr_R_grown rfl hn h
def ir_R_on : IR :=
  (.seq (.ops [.i 3 (.box 69 (.t 1)), .i 4 (.alloc 69 [.st (.str (ByteArray.mk (#[]))), .full []])]) (.seq (.ops [.i 10 (.mov (.t 0)), .i 11 (.fieldAddr 0 (.t 3)), .i 12 (.load false 1 (.t 11)), .i 13 (.call 104 [.t 10, .t 12]), .i 9 (.mov (.t 13)), .i 14 (.extract 0 (.t 9)), .i 15 (.extract 1 (.t 9)), .i 5 (.alloc 69 [.st (.str (ByteArray.mk (#[]))), .full []]), .mk none none (.store 2 (.t 5) (.t 14)) .no, .i 6 (.mov (.t 15))]) (.seq (.seq (.ops [.i 16 (.mov (.t 6)), .i 17 (.mov (.t 16)), .mk (some 18) (some (17, true)) (.fieldAddr 1 (.t 3)) .no, .mk (some 19) (some (17, true)) (.load false 1 (.t 18)) .no, .mk (some 20) (some (17, true)) (.len false (.t 19)) .no, .mk (some 21) (some (17, true)) (.bin .eql (.t 20) (.n 0)) .no, .i 22 (.pick (.t 17) (.t 21) (.c (.one (.st (.bool false)))))]) (.cond (.t 22) (.seq (.ops [.i 23 (.load true 2 (.t 5)), .mk none none (.store 2 (.t 4) (.t 23)) .no]) .ret) .skip)) (.seq (.ops [.i 24 (.fieldAddr 0 (.t 3)), .i 25 (.load false 1 (.t 24)), .i 26 (.build [.st (.str (ByteArray.mk (#[]))), .full []] [(0, 1, .t 25)]), .i 7 (.alloc 69 [.st (.str (ByteArray.mk (#[]))), .full []]), .mk none none (.store 2 (.t 7) (.t 26)) .no]) (.seq (.seq (.ops [.i 8 (.mov (.n 0))]) (.block 0 (.loop (.seq (.seq (.ops [.i 27 (.mov (.t 8)), .i 28 (.fieldAddr 1 (.t 3)), .i 29 (.load false 1 (.t 28)), .i 30 (.len false (.t 29)), .i 31 (.bin .lss (.t 27) (.t 30))]) (.cond (.t 31) .skip (.exit 0))) (.seq (.block 1 (.ops [.i 34 (.fieldAddr 1 (.t 7)), .i 35 (.load false 1 (.t 34)), .i 36 (.mov (.t 0)), .i 37 (.fieldAddr 1 (.t 3)), .i 38 (.load false 1 (.t 37)), .i 39 (.mov (.t 8)), .i 40 (.indexAddr 2 (.t 38) (.t 39)), .i 41 (.load true 2 (.t 40)), .i 42 (.call 73 [.t 36, .t 41]), .i 43 (.buildSlice false 69 2 [.t 42]), .i 44 (.append false 69 2 40 (.t 35) (.t 43)), .i 45 (.fieldAddr 1 (.t 7)), .mk none none (.store 1 (.t 45) (.t 44)) .no])) (.ops [.i 32 (.mov (.t 8)), .i 33 (.bin .add (.t 32) (.n 1)), .i 8 (.mov (.t 33))])))))) (.seq (.ops [.i 46 (.load true 2 (.t 7)), .mk none none (.store 2 (.t 4) (.t 46)) .no]) .ret))))))
theorem tr_R_on : trCode Tryz.prog 47 [] (Tryz.f73.body.getD .skip) = some ir_R_on := by kernel_rfl
theorem ac_R_on {xs : List AV} {r : AV} (hn : xs.length ≤ 47) (h : ∀ C : Ctx, C.n = 47 → IWP Tryz.prog C [] ir_R_on (FinQ [.cell 4 true 2] r) (AS.start xs)) : ACalls Tryz.prog 73 xs r :=
  acalls_of Tryz.func73 rfl tr_R_on rfl hn h
def ir_R_On : IR :=
  (.seq (.ops [.i 3 (.box 69 (.t 1)), .i 4 (.alloc 69 [.st (.str (ByteArray.mk (#[]))), .full []]), .i 5 (.mov (.c (.one (.st (.bool false)))))]) (.seq (.seq (.ops [.i 6 (.mov (.t 0)), .i 7 (.load true 2 (.t 3)), .i 8 (.call 72 [.t 6, .t 7, .n 2000]), .i 9 (.bin .gtr (.t 8) (.n 2000))]) (.cond (.t 9) (.seq (.ops [.i 10 (.build [.st (.str (ByteArray.mk (#[]))), .full []] []), .mk none none (.store 2 (.t 4) (.t 10)) .no, .i 5 (.mov (.c (.one (.st (.bool false)))))]) .ret) .skip)) (.seq (.ops [.i 11 (.mov (.t 0)), .i 12 (.load true 2 (.t 3)), .i 13 (.call 73 [.t 11, .t 12]), .mk none none (.store 2 (.t 4) (.t 13)) .no, .i 5 (.mov (.c (.one (.st (.bool true)))))]) .ret)))
theorem tr_R_On : trCode Tryz.prog 14 [] (Tryz.f39.body.getD .skip) = some ir_R_On := by kernel_rfl
theorem ac_R_On {xs : List AV} {r : AV} (hn : xs.length ≤ 14) (h : ∀ C : Ctx, C.n = 14 → IWP Tryz.prog C [] ir_R_On (FinQ [.cell 4 true 2, .t 5] r) (AS.start xs)) : ACalls Tryz.prog 39 xs r :=
  acalls_of Tryz.func39 rfl tr_R_On rfl hn h
def ir_cmp_isNaN_string : IR :=
  (.seq (.ops [.i 2 (.mov (.c (.one (.st (.bool false)))))]) (.seq (.ops [.i 3 (.mov (.t 0)), .i 4 (.mov (.t 0)), .i 5 (.bin .neq (.t 3) (.t 4)), .i 2 (.mov (.t 5))]) .ret))
theorem tr_cmp_isNaN_string : trCode Tryz.prog 6 [] (Tryz.f123.body.getD .skip) = some ir_cmp_isNaN_string := by kernel_rfl
theorem ac_cmp_isNaN_string {xs : List AV} {r : AV} (hn : xs.length ≤ 6) (h : ∀ C : Ctx, C.n = 6 → IWP Tryz.prog C [] ir_cmp_isNaN_string (FinQ [.t 2] r) (AS.start xs)) : ACalls Tryz.prog 123 xs r :=
  acalls_of Tryz.func123 rfl tr_cmp_isNaN_string rfl hn h
def ir_cmp_Compare_string : IR :=
  (.seq (.ops [.i 4 (.mov (.n 0))]) (.seq (.ops [.i 7 (.mov (.t 0)), .i 8 (.call 123 [.t 7]), .i 5 (.mov (.t 8))]) (.seq (.ops [.i 9 (.mov (.t 1)), .i 10 (.call 123 [.t 9]), .i 6 (.mov (.t 10))]) (.seq (.seq (.ops [.i 11 (.mov (.t 5))]) (.cond (.t 11) (.seq (.seq (.ops [.i 12 (.mov (.t 6))]) (.cond (.t 12) (.seq (.ops [.i 4 (.mov (.n 0))]) .ret) .skip)) (.seq (.ops [.i 4 (.mov (.c (.one (.st (.int .i64 (-1))))))]) .ret)) .skip)) (.seq (.seq (.ops [.i 13 (.mov (.t 6))]) (.cond (.t 13) (.seq (.ops [.i 4 (.mov (.n 1))]) .ret) .skip)) (.seq (.seq (.ops [.i 14 (.mov (.t 0)), .i 15 (.mov (.t 1)), .i 16 (.bin .lss (.t 14) (.t 15))]) (.cond (.t 16) (.seq (.ops [.i 4 (.mov (.c (.one (.st (.int .i64 (-1))))))]) .ret) .skip)) (.seq (.seq (.ops [.i 17 (.mov (.t 0)), .i 18 (.mov (.t 1)), .i 19 (.bin .gtr (.t 17) (.t 18))]) (.cond (.t 19) (.seq (.ops [.i 4 (.mov (.n 1))]) .ret) .skip)) (.seq (.ops [.i 4 (.mov (.n 0))]) .ret))))))))
theorem tr_cmp_Compare_string : trCode Tryz.prog 20 [] (Tryz.f111.body.getD .skip) = some ir_cmp_Compare_string := by kernel_rfl
theorem ac_cmp_Compare_string {xs : List AV} {r : AV} (hn : xs.length ≤ 20) (h : ∀ C : Ctx, C.n = 20 → IWP Tryz.prog C [] ir_cmp_Compare_string (FinQ [.t 4] r) (AS.start xs)) : ACalls Tryz.prog 111 xs r :=
  acalls_of Tryz.func111 rfl tr_cmp_Compare_string rfl hn h
def ir_subst_Find_1 : IR :=
  (.seq (.ops [.i 2 (.box 118 (.t 0)), .i 4 (.mov (.n 0))]) (.seq (.ops [.i 5 (.fieldAddr 0 (.t 2)), .i 6 (.load false 1 (.t 5)), .i 7 (.mov (.t 1)), .i 8 (.call 111 [.t 6, .t 7]), .i 4 (.mov (.t 8))]) .ret))
theorem tr_subst_Find_1 : trCode Tryz.prog 9 [] (Tryz.f125.body.getD .skip) = some ir_subst_Find_1 := by kernel_rfl
theorem ac_subst_Find_1 {xs : List AV} {r : AV} (hn : xs.length ≤ 9) (h : ∀ C : Ctx, C.n = 9 → IWP Tryz.prog C [] ir_subst_Find_1 (FinQ [.t 4] r) (AS.start xs)) : ACalls Tryz.prog 125 xs r :=
  acalls_of Tryz.func125 rfl tr_subst_Find_1 rfl hn h
def ir_slices_BinarySearchFunc_metaprune_api_Bind_metaprune_api_Bind_string : IR :=
  (.seq (.ops [.i 6 (.mov (.n 0)), .i 7 (.mov (.c (.one (.st (.bool false)))))]) (.seq (.ops [.i 12 (.mov (.t 0)), .i 13 (.len false (.t 12)), .i 8 (.mov (.t 13))]) (.seq (.ops [.i 14 (.mov (.t 8)), .i 9 (.mov (.n 0)), .i 10 (.mov (.t 14))]) (.seq (.block 0 (.loop (.seq (.seq (.ops [.i 15 (.mov (.t 9)), .i 16 (.mov (.t 10)), .i 17 (.bin .lss (.t 15) (.t 16))]) (.cond (.t 17) .skip (.exit 0))) (.block 1 (.seq (.ops [.i 18 (.mov (.t 9)), .i 19 (.mov (.t 10)), .i 20 (.bin .add (.t 18) (.t 19)), .i 21 (.conv .u64 (.t 20)), .i 22 (.bin .shr (.t 21) (.c (.one (.st (.int .u64 1))))), .i 23 (.conv .i64 (.t 22)), .i 11 (.mov (.t 23))]) (.seq (.ops [.i 24 (.mov (.t 2)), .i 25 (.mov (.t 0)), .i 26 (.mov (.t 11)), .i 27 (.indexAddr 3 (.t 25) (.t 26)), .i 28 (.load true 3 (.t 27)), .i 29 (.mov (.t 1)), .i 30 (.callV (.t 24) [.t 28, .t 29]), .i 31 (.bin .lss (.t 30) (.n 0))]) (.cond (.t 31) (.ops [.i 32 (.mov (.t 11)), .i 33 (.bin .add (.t 32) (.n 1)), .i 9 (.mov (.t 33))]) (.ops [.i 34 (.mov (.t 11)), .i 10 (.mov (.t 34))])))))))) (.seq (.ops [.i 35 (.mov (.t 9)), .i 36 (.mov (.t 9)), .i 37 (.mov (.t 8)), .i 38 (.bin .lss (.t 36) (.t 37)), .i 39 (.mov (.t 38)), .mk (some 40) (some (39, true)) (.mov (.t 2)) .no, .mk (some 41) (some (39, true)) (.mov (.t 0)) .no, .mk (some 42) (some (39, true)) (.mov (.t 9)) .no, .mk (some 43) (some (39, true)) (.indexAddr 3 (.t 41) (.t 42)) .no, .mk (some 44) (some (39, true)) (.load true 3 (.t 43)) .no, .mk (some 45) (some (39, true)) (.mov (.t 1)) .no, .mk (some 46) (some (39, true)) (.callV (.t 40) [.t 44, .t 45]) .no, .mk (some 47) (some (39, true)) (.bin .eql (.t 46) (.n 0)) .no, .i 48 (.pick (.t 39) (.t 47) (.c (.one (.st (.bool false))))), .i 6 (.mov (.t 35)), .i 7 (.mov (.t 48))]) .ret)))))
theorem tr_slices_BinarySearchFunc_metaprune_api_Bind_metaprune_api_Bind_string : trCode Tryz.prog 49 [] (Tryz.f124.body.getD .skip) = some ir_slices_BinarySearchFunc_metaprune_api_Bind_metaprune_api_Bind_string := by kernel_rfl
theorem ac_slices_BinarySearchFunc_metaprune_api_Bind_metaprune_api_Bind_string {xs : List AV} {r : AV} (hn : xs.length ≤ 49) (h : ∀ C : Ctx, C.n = 49 → IWP Tryz.prog C [] ir_slices_BinarySearchFunc_metaprune_api_Bind_metaprune_api_Bind_string (FinQ [.t 6, .t 7] r) (AS.start xs)) : ACalls Tryz.prog 124 xs r :=
  acalls_of Tryz.func124 rfl tr_slices_BinarySearchFunc_metaprune_api_Bind_metaprune_api_Bind_string rfl hn h
def ir_subst_Find : IR :=
  (.seq (.ops [.i 4 (.alloc 69 [.st (.str (ByteArray.mk (#[]))), .full []]), .i 5 (.mov (.c (.one (.st (.bool false)))))]) (.seq (.ops [.i 9 (.mov (.t 0)), .i 10 (.mov (.t 1)), .i 11 (.call 124 [.t 9, .t 10, .c (.one (.fn 125 []))]), .i 8 (.mov (.t 11)), .i 12 (.extract 0 (.t 8)), .i 13 (.extract 1 (.t 8)), .i 6 (.mov (.t 12)), .i 7 (.mov (.t 13))]) (.seq (.seq (.ops [.i 14 (.mov (.t 7)), .i 15 (.un .not (.t 14))]) (.cond (.t 15) (.seq (.ops [.i 16 (.build [.st (.str (ByteArray.mk (#[]))), .full []] []), .mk none none (.store 2 (.t 4) (.t 16)) .no, .i 5 (.mov (.c (.one (.st (.bool false)))))]) .ret) .skip)) (.seq (.ops [.i 17 (.mov (.t 0)), .i 18 (.mov (.t 6)), .i 19 (.indexAddr 3 (.t 17) (.t 18)), .i 20 (.fieldAddr 1 (.t 19)), .i 21 (.load true 2 (.t 20)), .mk none none (.store 2 (.t 4) (.t 21)) .no, .i 5 (.mov (.c (.one (.st (.bool true)))))]) .ret))))
theorem tr_subst_Find : trCode Tryz.prog 22 [] (Tryz.f112.body.getD .skip) = some ir_subst_Find := by kernel_rfl
theorem ac_subst_Find {xs : List AV} {r : AV} (hn : xs.length ≤ 22) (h : ∀ C : Ctx, C.n = 22 → IWP Tryz.prog C [] ir_subst_Find (FinQ [.cell 4 true 2, .t 5] r) (AS.start xs)) : ACalls Tryz.prog 112 xs r :=
  acalls_of Tryz.func112 rfl tr_subst_Find rfl hn h
def ir_metaprune_subst_maker_copy : IR :=
  (.seq (.ops [.i 4 (.box 69 (.t 1)), .i 6 (.alloc 69 [.st (.str (ByteArray.mk (#[]))), .full []])]) (.seq (.seq (.ops [.i 12 (.mov (.t 2))]) (.cond (.t 12) (.seq (.ops [.i 14 (.mov (.t 0)), .i 15 (.nilCheck (.t 14)), .i 16 (.fieldAddr 0 (.t 15)), .i 17 (.load false 1 (.t 16)), .i 18 (.fieldAddr 0 (.t 4)), .i 19 (.load false 1 (.t 18)), .i 20 (.call 112 [.t 17, .t 19]), .i 13 (.mov (.t 20)), .i 21 (.extract 0 (.t 13)), .i 22 (.extract 1 (.t 13)), .i 7 (.alloc 69 [.st (.str (ByteArray.mk (#[]))), .full []]), .mk none none (.store 2 (.t 7) (.t 21)) .no, .i 8 (.mov (.t 22))]) (.seq (.ops [.i 23 (.mov (.t 8))]) (.cond (.t 23) (.seq (.ops [.i 24 (.mov (.t 0)), .i 25 (.load true 2 (.t 7)), .i 26 (.callS 84 [.t 24, .t 25, .c (.one (.st (.bool false)))]), .mk none none (.store 2 (.t 6) (.t 26)) .no]) .ret) .skip))) .skip)) (.seq (.seq (.ops [.i 27 (.mov (.t 0)), .i 28 (.nilCheck (.t 27)), .i 29 (.fieldAddr 1 (.t 28)), .i 30 (.load false 1 (.t 29)), .i 31 (.bin .sub (.t 30) (.n 1)), .i 32 (.nilCheck (.t 27)), .i 33 (.fieldAddr 1 (.t 32)), .mk none none (.store 1 (.t 33) (.t 31)) .no]) (.seq (.ops [.i 34 (.mov (.t 0)), .i 35 (.nilCheck (.t 34)), .i 36 (.fieldAddr 1 (.t 35)), .i 37 (.load false 1 (.t 36)), .i 38 (.bin .lss (.t 37) (.n 0))]) (.cond (.t 38) (.seq (.ops [.i 39 (.build [.st (.str (ByteArray.mk (#[]))), .full []] []), .mk none none (.store 2 (.t 6) (.t 39)) .no]) .ret) .skip))) (.seq (.ops [.i 40 (.fieldAddr 0 (.t 4)), .i 41 (.load false 1 (.t 40)), .i 42 (.build [.st (.str (ByteArray.mk (#[]))), .full []] [(0, 1, .t 41)]), .i 9 (.alloc 69 [.st (.str (ByteArray.mk (#[]))), .full []]), .mk none none (.store 2 (.t 9) (.t 42)) .no]) (.seq (.seq (.ops [.i 43 (.fieldAddr 1 (.t 4)), .i 44 (.load false 1 (.t 43)), .i 45 (.len false (.t 44)), .i 46 (.mov (.n 0))]) (.block 0 (.loop (.seq (.ops [.i 47 (.bin .lss (.t 46) (.t 45))]) (.seq (.cond (.t 47) .skip (.exit 0)) (.seq (.block 1 (.seq (.ops [.i 48 (.indexAddr 2 (.t 44) (.t 46)), .i 49 (.load true 2 (.t 48)), .i 11 (.alloc 69 [.st (.str (ByteArray.mk (#[]))), .full []]), .mk none none (.store 2 (.t 11) (.t 49)) .no]) (.seq (.ops [.mk (some 50) none (.fieldAddr 1 (.t 9)) (.onb 9), .mk (some 51) none (.load false 1 (.t 50)) (.onb 9), .i 52 (.mov (.t 0)), .i 53 (.load true 2 (.t 11)), .i 54 (.mov (.t 2)), .mk (some 55) none (.callS 84 [.t 52, .t 53, .t 54]) (.keeps [9, 9]), .i 56 (.buildSlice false 69 2 [.t 55]), .i 57 (.append false 69 2 40 (.t 51) (.t 56)), .i 58 (.fieldAddr 1 (.t 9)), .mk none none (.store 1 (.t 58) (.t 57)) .no]) (.seq (.ops [.i 59 (.mov (.t 0)), .i 60 (.nilCheck (.t 59)), .i 61 (.fieldAddr 1 (.t 60)), .i 62 (.load false 1 (.t 61)), .i 63 (.bin .lss (.t 62) (.n 0))]) (.cond (.t 63) (.seq (.ops [.i 64 (.build [.st (.str (ByteArray.mk (#[]))), .full []] []), .mk none none (.store 2 (.t 6) (.t 64)) .no]) .ret) .skip))))) (.ops [.i 65 (.bin .add (.t 46) (.n 1)), .i 46 (.mov (.t 65))]))))))) (.seq (.ops [.i 66 (.load true 2 (.t 9)), .mk none none (.store 2 (.t 6) (.t 66)) .no]) .ret))))))
theorem tr_metaprune_subst_maker_copy : trCode Tryz.prog 67 [26, 55] (Tryz.f84.body.getD .skip) = some ir_metaprune_subst_maker_copy := by kernel_rfl
theorem acS_metaprune_subst_maker_copy {xs : List AV} {S S' : AStore} {r : AV} (hn : xs.length ≤ 67) (h : Clean S → ∀ C : Ctx, C.n = 67 → IWP Tryz.prog C [26, 55] ir_metaprune_subst_maker_copy (FinS C [.cell 6 true 2] r S') (AS.startS xs S)) : ACallsS Tryz.prog 84 xs S r S' :=
  acallsS_of Tryz.func84 rfl tr_metaprune_subst_maker_copy rfl hn h
def ir_subst_On : IR :=
  (.seq (.ops [.i 3 (.box 69 (.t 1)), .i 4 (.alloc 69 [.st (.str (ByteArray.mk (#[]))), .full []]), .i 5 (.mov (.c (.one (.st (.bool false)))))]) (.seq (.ops [.i 8 (.mov (.t 0)), .i 9 (.build [.full [], .st (.int .i64 0)] [(0, 1, .t 8), (1, 1, .n 2000)]), .i 10 (.box 128 (.t 9)), .i 6 (.mov (.t 10))]) (.seq (.ops [.i 11 (.mov (.t 6)), .i 12 (.load true 2 (.t 3)), .i 13 (.callS 84 [.t 11, .t 12, .c (.one (.st (.bool true)))]), .i 7 (.alloc 69 [.st (.str (ByteArray.mk (#[]))), .full []]), .mk none none (.store 2 (.t 7) (.t 13)) .no]) (.seq (.ops [.i 14 (.load true 2 (.t 7)), .i 15 (.mov (.t 6)), .mk (some 16) none (.nilCheck (.t 15)) (.onb 10), .mk (some 17) none (.fieldAddr 1 (.t 16)) (.onb 10), .mk (some 18) none (.load false 1 (.t 17)) (.onb 10), .i 19 (.bin .geq (.t 18) (.n 0)), .mk none none (.store 2 (.t 4) (.t 14)) (.onb 4), .i 5 (.mov (.t 19))]) .ret))))
theorem tr_subst_On : trCode Tryz.prog 20 [13, 10060010] (Tryz.f46.body.getD .skip) = some ir_subst_On := by kernel_rfl
theorem ac_subst_On {xs : List AV} {r : AV} (hn : xs.length ≤ 20) (h : ∀ C : Ctx, C.n = 20 → IWP Tryz.prog C [13, 10060010] ir_subst_On (FinQ [.cell 4 true 2, .t 5] r) (AS.start xs)) : ACalls Tryz.prog 46 xs r :=
  acalls_of Tryz.func46 rfl tr_subst_On rfl hn h
end Go.Proofs.YtehnjhkndbcmgaaGreatDoor
