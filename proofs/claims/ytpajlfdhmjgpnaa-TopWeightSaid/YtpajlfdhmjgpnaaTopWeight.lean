/-
  The weight order is a strict order, stable, kept by contexts, total on ground terms: the law.
  Conditions: none.
-/
import Derived.Test.YtpajlfdhmjgpnaaBOrder
import Derived.Test.YtpajlfdhmjgpnaaBMadeB
import Derived.Test.YtpajlfdhmjgpnaaBMadeG
import Derived.Test.YtpajlfdhmjgpnaaBSubst2
import Derived.Test.YtpajlfdhmjgpnaaIrTWeight
namespace Go.Proofs.Ytpajlfdhmjgpnaa
open Go Go.RowKit
set_option linter.unusedVariables false
set_option linter.unusedSimpArgs false
set_option maxHeartbeats 800000

abbrev boxTm (t : Tm) : ABlk := .box 24 [.st (.str t.name), .st (.list (t.args.map encT))]
set_option maxRecDepth 100000 in
theorem topWeight_a (l : List Int) (m1 m2 m3 : Int) (hl : ∀ n ∈ l, inR .i64 n) (hm : l.length ≤ maxLen) (h1 : inR .i64 m1) (h2 : inR .i64 m2) (h3 : inR .i64 m3) : ACalls Try.prog 8 [aInts l, aInt m1, aInt m2, aInt m3] (aBool true) := by
  obtain ⟨row, hrow, hrm⟩ := rowFrom_a m1 h1
  have r2 := pickI_range m2 9 (by omega)
  have r3 := pickI_range m3 3 (by omega)
  have p2 := pick_a m2 9 h2 (by omega)
  have p3 := pick_a m3 3 h3 (by omega)
  obtain ⟨n, en⟩ : ∃ k : Nat, 1 + pickI m2 9 = k := ⟨(1 + pickI m2 9).toNat, by omega⟩
  generalize pickI m2 9 = x2 at *
  generalize pickI m3 3 = x3 at *
  obtain ⟨a, ca, za, ka⟩ := termOf_a l hl hm 2 (by omega) n 0 (by omega) (by omega)
  obtain ⟨b, cb, zb, kb⟩ := termOf_a l hl hm 2 (by omega) n 30 (by omega) (by omega)
  obtain ⟨c, cc, zc, kc⟩ := termOf_a l hl hm 2 (by omega) n 60 (by omega) (by omega)
  obtain ⟨s, cs, os, _, zs⟩ := bindsFrom_a l hl hm 2 (by omega) 90 3 (by omega) (by omega)
  obtain ⟨p, cp, zp, kp, gp⟩ := groundR_a l hl hm n 130 (by omega) (by omega)
  obtain ⟨q, cq, zq, kq, gq⟩ := groundR_a l hl hm n 160 (by omega) (by omega)
  have hsz := fun t => size_sub (M := 5) (by omega) (fun b hb => by have := zs b hb; omega) t
  have hx := hsz a
  have hy := hsz b
  have on1 := onRef_a s a (by omega)
  have on2 := onRef_a s b (by omega)
  rw [show onTo s a = (a.on s, true) by unfold onTo; rw [if_pos (by omega)]] at on1
  rw [show onTo s b = (b.on s, true) by unfold onTo; rw [if_pos (by omega)]] at on2
  have z1 := sizeR_a (a.on s) 200 (by omega) (by omega)
  have z2 := sizeR_a (b.on s) 200 (by omega) (by omega)
  have y1 : ¬ (200 : Int) < capTo (a.on s).size 200 := by unfold capTo; split <;> omega
  have y2 : ¬ (200 : Int) < capTo (b.on s).size 200 := by unfold capTo; split <;> omega
  have hW : ∀ t u : Tm, t.chk = 0 → t.size ≤ 200 → u.chk = 0 → u.size ≤ 200 → ACalls Try.prog 32 [aStrs row, aTm t, aTm u] (.tup [aBool (t.wt row u), aInt 0]) := fun t u k1 q1 k2 q2 => by
    have e : argsMay row t u = 0 := by
      unfold argsMay twoMay
      rw [if_pos hrm, if_pos (may_of k1 q1)]
      exact may_of k2 q2
    have := orderWeight_a row t u
    unfold weightOf at this
    rw [e, show (decide ((0 : Int) = 0) && t.wt row u) = t.wt row u by simp] at this
    exact this
  have kx : (a.on s).chk = 0 := chk_sub os.chk ka
  have ky : (b.on s).chk = 0 := chk_sub os.chk kb
  have kup : ∀ (nm : ByteArray) (xs : List Tm), nameOk nm = true → isVar nm = false → (∀ x ∈ xs, x.chk = 0) → (Tm.mk nm xs).chk = 0 := fun nm xs h1 h2 h3 => chk_knot h1 h2 h3
  have wab := hW a b ka (by omega) kb (by omega)
  have wbc := hW b c kb (by omega) kc (by omega)
  have wac := hW a c ka (by omega) kc (by omega)
  have wba := hW b a kb (by omega) ka (by omega)
  have waa := hW a a ka (by omega) ka (by omega)
  have wxy := hW (a.on s) (b.on s) kx (by omega) ky (by omega)
  have wpq := hW p q kp (by omega) kq (by omega)
  have wqp := hW q p kq (by omega) kp (by omega)
  have wup := hW (.mk ⟨#[102]⟩ [.mk ⟨#[99]⟩ [], a]) a (kup _ _ (by decide +kernel) (by decide +kernel) (by simp [ka, (by decide +kernel : (Tm.mk ⟨#[99]⟩ []).chk = 0)])) (by simp only [Tm.size, Tm.sizes]; omega) ka (by omega)
  have w0 := hW (.mk ⟨#[102]⟩ [a, c]) (.mk ⟨#[102]⟩ [b, c]) (kup _ _ (by decide +kernel) (by decide +kernel) (by simp [ka, kc])) (by simp only [Tm.size, Tm.sizes]; omega) (kup _ _ (by decide +kernel) (by decide +kernel) (by simp [kb, kc])) (by simp only [Tm.size, Tm.sizes]; omega)
  have w1 := hW (.mk ⟨#[103]⟩ [c, a]) (.mk ⟨#[103]⟩ [c, b]) (kup _ _ (by decide +kernel) (by decide +kernel) (by simp [ka, kc])) (by simp only [Tm.size, Tm.sizes]; omega) (kup _ _ (by decide +kernel) (by decide +kernel) (by simp [kb, kc])) (by simp only [Tm.size, Tm.sizes]; omega)
  have w2 := hW (.mk ⟨#[104]⟩ [a]) (.mk ⟨#[104]⟩ [b]) (kup _ _ (by decide +kernel) (by decide +kernel) (by simp [ka])) (by simp only [Tm.size, Tm.sizes]; omega) (kup _ _ (by decide +kernel) (by decide +kernel) (by simp [kb])) (by simp only [Tm.size, Tm.sizes]; omega)
  have haa : a.wt row a = false := by rw [← Bool.not_eq_true]; exact wt_irrefl a
  have hup : Tm.wt row (.mk ⟨#[102]⟩ [.mk ⟨#[99]⟩ [], a]) a = true := wt_sub row ⟨#[102]⟩ [.mk ⟨#[99]⟩ []] [] a
  have hba : a.wt row b = true → b.wt row a = false := fun h => by rw [← Bool.not_eq_true]; exact wt_asymm h
  have hac : a.wt row b = true → b.wt row c = true → a.wt row c = true := fun h k => wt_trans h k
  have hxy : a.wt row b = true → (a.on s).wt row (b.on s) = true := fun h => wt_on os ka kb h
  have h0 : a.wt row b = true → Tm.wt row (.mk ⟨#[102]⟩ [a, c]) (.mk ⟨#[102]⟩ [b, c]) = true := fun h => wt_ctx (n := ⟨#[102]⟩) (by decide +kernel) [] [c] h
  have h1' : a.wt row b = true → Tm.wt row (.mk ⟨#[103]⟩ [c, a]) (.mk ⟨#[103]⟩ [c, b]) = true := fun h => wt_ctx (n := ⟨#[103]⟩) (by decide +kernel) [c] [] h
  have h2' : a.wt row b = true → Tm.wt row (.mk ⟨#[104]⟩ [a]) (.mk ⟨#[104]⟩ [b]) = true := fun h => wt_ctx (n := ⟨#[104]⟩) (by decide +kernel) [] [] h
  have hpq : p ≠ q → (p.wt row q == q.wt row p) = false := fun hne => by
    rcases wt_total (row := row) gp gq hne with h | h
    · have h' : q.wt row p = false := by rw [← Bool.not_eq_true]; exact wt_asymm h
      rw [h', show p.wt row q = true from h]
      rfl
    · have h' : p.wt row q = false := by rw [← Bool.not_eq_true]; exact wt_asymm h
      rw [h', show q.wt row p = true from h]
      rfl
  have hsame := sameR_a p q
  rw [haa] at waa
  rw [hup] at wup
  generalize Tm.wt row (.mk ⟨#[102]⟩ [a, c]) (.mk ⟨#[102]⟩ [b, c]) = v0 at *
  generalize Tm.wt row (.mk ⟨#[103]⟩ [c, a]) (.mk ⟨#[103]⟩ [c, b]) = v1 at *
  generalize Tm.wt row (.mk ⟨#[104]⟩ [a]) (.mk ⟨#[104]⟩ [b]) = v2 at *
  generalize Tm.wt row (a.on s) (b.on s) = xy at *
  generalize Tm.wt row a b = ab at *
  generalize Tm.wt row b a = ba at *
  generalize Tm.wt row b c = bc at *
  generalize Tm.wt row a c = ac at *
  generalize Tm.wt row p q = pq at *
  generalize Tm.wt row q p = qp at *
  unfold aTm at wup w0 w1 w2
  simp only [Tm.args_mk, Tm.name_mk, List.map_cons, List.map_nil, encT_eq] at wup w0 w1 w2
  unfold MadeG at cp cq
  generalize a.on s = x at *
  generalize b.on s = y at *
  clear hW hsz haa hup kup
  refine ac_metaprunetop_TopWeight (Nat.le_of_ble_eq_true rfl) fun C hC => ?_
  unfold ir_metaprunetop_TopWeight
  by_cases h256 : (256 : Int) < l.length
  · repeat' (first | (with_reducible first | refine Wa ?_ | refine Wb ?_ | refine Wc ?_ | refine Wd ?_ | refine We ?_ | refine Wf ?_ | refine Wg ?_ | refine Wh ?_ | refine Wi ?_ | refine Wj ?_ | refine Wk (by decide) ?_ | refine Wl ?_ | refine Wm ?_ | refine Wn ?_) | ((with_reducible first | refine Wo (fun K hK => ?_) | refine Wp ?_ | refine Wq ?_ | refine Wr ?_); (try simp only [go_sem, List.forall_mem_nil, ↓guard_ite, ↓pick_ite, seval, encT_eq, inR_i64, h256, decide_eq_true_eq, decide_eq_false_iff_not, Int.ofNat_lt]); (repeat with_reducible refine And.intro (by first | omega | (with_reducible first | exact lens_encT | exact lens_encL | exact lens_encB | exact lens_encP) | (simp; done) | (simp only [List.length_take, List.length_map, List.length_append, maxLen_eq]; omega)) ?_); (try (with_reducible refine hK _ ?_; clear hK K)); (try with_reducible refine ite_conj ?_)))
    simp only [go_sem, List.forall_mem_nil, ↓guard_ite, ↓pick_ite, seval, FinQ, AS.result, resAll, resOne, tupV]
  repeat' (first | (with_reducible first | refine Wa ?_ | refine Wb ?_ | refine Wc ?_ | refine Wd ?_ | refine We ?_ | refine Wf ?_ | refine Wg ?_ | refine Wh ?_ | refine Wi ?_ | refine Wj ?_ | refine Wk (by decide) ?_ | refine Wl ?_ | refine Wm ?_ | refine Wn ?_) | refine CallG.mk _ (hrow) ?_ | refine CallG.mk _ (p2) ?_ | refine CallG.mk _ (ca) ?_ | refine CallG.mk _ (cb) ?_ | refine CallG.mk _ (cc) ?_ | refine CallG.mk _ (wab) ?_ | refine CallG.mk _ (wbc) ?_ | refine CallG.mk _ (wac) ?_ | refine CallG.mk _ (wba) ?_ | ((with_reducible first | refine Wo (fun K hK => ?_) | refine Wp ?_ | refine Wq ?_ | refine Wr ?_); (try simp only [go_sem, List.forall_mem_nil, ↓guard_ite, ↓pick_ite, seval, encT_eq, inR_i64, h256, en, decide_eq_true_eq, decide_eq_false_iff_not, Int.ofNat_lt]); (repeat with_reducible refine And.intro (by first | omega | (with_reducible first | exact lens_encT | exact lens_encL | exact lens_encB | exact lens_encP) | (simp; done) | (simp only [List.length_take, List.length_map, List.length_append, maxLen_eq]; omega)) ?_); (try (with_reducible refine hK _ ?_; clear hK K)); (try with_reducible refine ite_conj ?_)))
  refine CallG.mk _ waa ?_
  refine Wq ?_
  simp only [go_sem, List.forall_mem_nil, ↓guard_ite, ↓pick_ite, seval, encT_eq, inR_i64]
  refine hK _ ?_
  clear hK K
  refine Wb ?_
  refine IWP.mid (fun x => x.env 129 = aBool false ∧ x.env 0 = aInts l ∧ x.env 3 = aInt m3 ∧ x.env 9 = aStrs row ∧ x.env 10 = aInt n ∧ x.env 11 = .one (.ptr 11 1 0 0) ∧ x.env 12 = .one (.ptr 12 1 0 0) ∧ x.env 13 = .one (.ptr 13 1 0 0) ∧ x.env 14 = aBool ab ∧ x.S 11 = some (boxTm a) ∧ x.S 12 = some (boxTm b) ∧ x.S 13 = some (boxTm c) ∧ x.S 24 = none ∧ x.S 27 = none ∧ x.S 29 = none ∧ x.S 35 = none ∧ x.S 37 = none) ?_ ?_
  · cases ab with
    | false =>
      repeat' (first | (with_reducible first | refine Wa ?_ | refine Wb ?_ | refine Wc ?_ | refine Wd ?_ | refine We ?_ | refine Wf ?_ | refine Wg ?_ | refine Wh ?_ | refine Wi ?_ | refine Wj ?_ | refine Wk (by decide) ?_ | refine Wl ?_ | refine Wm ?_ | refine Wn ?_) | ((with_reducible first | refine Wo (fun K hK => ?_) | refine Wp ?_ | refine Wq ?_ | refine Wr ?_); (try simp only [go_sem, List.forall_mem_nil, ↓guard_ite, ↓pick_ite, seval, encT_eq, inR_i64, decide_eq_true_eq, decide_eq_false_iff_not, Int.ofNat_lt]); (repeat with_reducible refine And.intro (by first | omega | (with_reducible first | exact lens_encT | exact lens_encL | exact lens_encB | exact lens_encP) | (simp; done) | (simp only [List.length_take, List.length_map, List.length_append, maxLen_eq]; omega)) ?_); (try (with_reducible refine hK _ ?_; clear hK K)); (try with_reducible refine ite_conj ?_)))
      refine ⟨rfl, ?_⟩
      simp only [go_sem, List.forall_mem_nil, ↓guard_ite, ↓pick_ite, seval, encT_eq, inR_i64, en]
    | true =>
      have hba := hba rfl
      cases bc with
      | false =>
        repeat' (first | (with_reducible first | refine Wa ?_ | refine Wb ?_ | refine Wc ?_ | refine Wd ?_ | refine We ?_ | refine Wf ?_ | refine Wg ?_ | refine Wh ?_ | refine Wi ?_ | refine Wj ?_ | refine Wk (by decide) ?_ | refine Wl ?_ | refine Wm ?_ | refine Wn ?_) | ((with_reducible first | refine Wo (fun K hK => ?_) | refine Wp ?_ | refine Wq ?_ | refine Wr ?_); (try simp only [go_sem, List.forall_mem_nil, ↓guard_ite, ↓pick_ite, seval, encT_eq, inR_i64, hba, decide_eq_true_eq, decide_eq_false_iff_not, Int.ofNat_lt]); (repeat with_reducible refine And.intro (by first | omega | (with_reducible first | exact lens_encT | exact lens_encL | exact lens_encB | exact lens_encP) | (simp; done) | (simp only [List.length_take, List.length_map, List.length_append, maxLen_eq]; omega)) ?_); (try (with_reducible refine hK _ ?_; clear hK K)); (try with_reducible refine ite_conj ?_)))
        refine ⟨rfl, ?_⟩
        simp only [go_sem, List.forall_mem_nil, ↓guard_ite, ↓pick_ite, seval, encT_eq, inR_i64, en]
      | true =>
        have hac := hac rfl rfl
        repeat' (first | (with_reducible first | refine Wa ?_ | refine Wb ?_ | refine Wc ?_ | refine Wd ?_ | refine We ?_ | refine Wf ?_ | refine Wg ?_ | refine Wh ?_ | refine Wi ?_ | refine Wj ?_ | refine Wk (by decide) ?_ | refine Wl ?_ | refine Wm ?_ | refine Wn ?_) | ((with_reducible first | refine Wo (fun K hK => ?_) | refine Wp ?_ | refine Wq ?_ | refine Wr ?_); (try simp only [go_sem, List.forall_mem_nil, ↓guard_ite, ↓pick_ite, seval, encT_eq, inR_i64, hba, hac, decide_eq_true_eq, decide_eq_false_iff_not, Int.ofNat_lt]); (repeat with_reducible refine And.intro (by first | omega | (with_reducible first | exact lens_encT | exact lens_encL | exact lens_encB | exact lens_encP) | (simp; done) | (simp only [List.length_take, List.length_map, List.length_append, maxLen_eq]; omega)) ?_); (try (with_reducible refine hK _ ?_; clear hK K)); (try with_reducible refine ite_conj ?_)))
        refine ⟨rfl, ?_⟩
        simp only [go_sem, List.forall_mem_nil, ↓guard_ite, ↓pick_ite, seval, encT_eq, inR_i64, en]
  rintro ⟨env, S⟩ ⟨e129, e0, e3, e9, e10, e11, e12, e13, e14, s11, s12, s13, s24, s27, s29, s35, s37⟩
  simp only at e129 e0 e3 e9 e10 e11 e12 e13 e14 s11 s12 s13 s24 s27 s29 s35 s37
  have hx3 : x3 = 0 ∨ x3 = 1 ∨ x3 = 2 := by omega
  apply once
  · intro rest
    rcases hx3 with hx3 | hx3 | hx3
    · rw [hx3] at p3
      repeat' (first | (with_reducible first | refine Wa ?_ | refine Wb ?_ | refine Wc ?_ | refine Wd ?_ | refine We ?_ | refine Wf ?_ | refine Wg ?_ | refine Wh ?_ | refine Wi ?_ | refine Wj ?_ | refine Wk (by decide) ?_ | refine Wl ?_ | refine Wm ?_ | refine Wn ?_) | refine CallG.mk _ (leaf_a ⟨#[99]⟩) ?_ | refine CallG.mk _ (wup) ?_ | refine CallG.mk _ (cs) ?_ | refine CallG.mk _ (on1) ?_ | refine CallG.mk _ (on2) ?_ | refine CallG.mk _ (z1) ?_ | refine CallG.mk _ (z2) ?_ | refine CallG.mk _ (wxy) ?_ | refine CallG.mk _ (p3) ?_ | ((with_reducible first | refine Wo (fun K hK => ?_) | refine Wp ?_ | refine Wq ?_ | refine Wr ?_); (try simp only [go_sem, List.forall_mem_nil, ↓guard_ite, ↓pick_ite, seval, encT_eq, inR_i64, e0, e3, e9, e10, e11, e12, e13, e14, s11, s12, s13, s24, s27, s29, s35, s37, y1, y2, decide_eq_true_eq, decide_eq_false_iff_not, Int.ofNat_lt]); (repeat with_reducible refine And.intro (by first | omega | (with_reducible first | exact lens_encT | exact lens_encL | exact lens_encB | exact lens_encP) | (simp; done) | (simp only [List.length_take, List.length_map, List.length_append, maxLen_eq]; omega)) ?_); (try (with_reducible refine hK _ ?_; clear hK K)); (try with_reducible refine ite_conj ?_)))
      refine CallG.mk _ w0 ?_
      refine Wq ?_
      simp only [go_sem, List.forall_mem_nil, ↓guard_ite, ↓pick_ite, seval, encT_eq, inR_i64, e0, e3, e9, e10, e11, e12, e13, e14, s11, s12, s13, s24, s27, s29, s35, s37]
      refine hK _ ?_
      clear hK K
      refine Wb ?_
      refine IWP.mid (fun x => x.env 240 = aBool false ∧ x.env 0 = aInts l ∧ x.env 9 = aStrs row ∧ x.env 10 = aInt n ∧ x.S 35 = none ∧ x.S 37 = none) ?_ rest
      cases ab with
      | false =>
        repeat' (first | (with_reducible first | refine Wa ?_ | refine Wb ?_ | refine Wc ?_ | refine Wd ?_ | refine We ?_ | refine Wf ?_ | refine Wg ?_ | refine Wh ?_ | refine Wi ?_ | refine Wj ?_ | refine Wk (by decide) ?_ | refine Wl ?_ | refine Wm ?_ | refine Wn ?_) | ((with_reducible first | refine Wo (fun K hK => ?_) | refine Wp ?_ | refine Wq ?_ | refine Wr ?_); (try simp only [go_sem, List.forall_mem_nil, ↓guard_ite, ↓pick_ite, seval, encT_eq, inR_i64, e14, decide_eq_true_eq, decide_eq_false_iff_not, Int.ofNat_lt]); (repeat with_reducible refine And.intro (by first | omega | (with_reducible first | exact lens_encT | exact lens_encL | exact lens_encB | exact lens_encP) | (simp; done) | (simp only [List.length_take, List.length_map, List.length_append, maxLen_eq]; omega)) ?_); (try (with_reducible refine hK _ ?_; clear hK K)); (try with_reducible refine ite_conj ?_)))
        refine ⟨rfl, ?_⟩
        simp only [go_sem, List.forall_mem_nil, ↓guard_ite, ↓pick_ite, seval, encT_eq, inR_i64, e0, e9, e10, s35, s37]
      | true =>
        have hxy := hxy rfl
        have hh := h0 rfl
        repeat' (first | (with_reducible first | refine Wa ?_ | refine Wb ?_ | refine Wc ?_ | refine Wd ?_ | refine We ?_ | refine Wf ?_ | refine Wg ?_ | refine Wh ?_ | refine Wi ?_ | refine Wj ?_ | refine Wk (by decide) ?_ | refine Wl ?_ | refine Wm ?_ | refine Wn ?_) | ((with_reducible first | refine Wo (fun K hK => ?_) | refine Wp ?_ | refine Wq ?_ | refine Wr ?_); (try simp only [go_sem, List.forall_mem_nil, ↓guard_ite, ↓pick_ite, seval, encT_eq, inR_i64, e14, hxy, hh, decide_eq_true_eq, decide_eq_false_iff_not, Int.ofNat_lt]); (repeat with_reducible refine And.intro (by first | omega | (with_reducible first | exact lens_encT | exact lens_encL | exact lens_encB | exact lens_encP) | (simp; done) | (simp only [List.length_take, List.length_map, List.length_append, maxLen_eq]; omega)) ?_); (try (with_reducible refine hK _ ?_; clear hK K)); (try with_reducible refine ite_conj ?_)))
        refine ⟨rfl, ?_⟩
        simp only [go_sem, List.forall_mem_nil, ↓guard_ite, ↓pick_ite, seval, encT_eq, inR_i64, e0, e9, e10, s35, s37]
    · rw [hx3] at p3
      repeat' (first | (with_reducible first | refine Wa ?_ | refine Wb ?_ | refine Wc ?_ | refine Wd ?_ | refine We ?_ | refine Wf ?_ | refine Wg ?_ | refine Wh ?_ | refine Wi ?_ | refine Wj ?_ | refine Wk (by decide) ?_ | refine Wl ?_ | refine Wm ?_ | refine Wn ?_) | refine CallG.mk _ (leaf_a ⟨#[99]⟩) ?_ | refine CallG.mk _ (wup) ?_ | refine CallG.mk _ (cs) ?_ | refine CallG.mk _ (on1) ?_ | refine CallG.mk _ (on2) ?_ | refine CallG.mk _ (z1) ?_ | refine CallG.mk _ (z2) ?_ | refine CallG.mk _ (wxy) ?_ | refine CallG.mk _ (p3) ?_ | ((with_reducible first | refine Wo (fun K hK => ?_) | refine Wp ?_ | refine Wq ?_ | refine Wr ?_); (try simp only [go_sem, List.forall_mem_nil, ↓guard_ite, ↓pick_ite, seval, encT_eq, inR_i64, e0, e3, e9, e10, e11, e12, e13, e14, s11, s12, s13, s24, s27, s29, s35, s37, y1, y2, decide_eq_true_eq, decide_eq_false_iff_not, Int.ofNat_lt]); (repeat with_reducible refine And.intro (by first | omega | (with_reducible first | exact lens_encT | exact lens_encL | exact lens_encB | exact lens_encP) | (simp; done) | (simp only [List.length_take, List.length_map, List.length_append, maxLen_eq]; omega)) ?_); (try (with_reducible refine hK _ ?_; clear hK K)); (try with_reducible refine ite_conj ?_)))
      refine CallG.mk _ w1 ?_
      refine Wq ?_
      simp only [go_sem, List.forall_mem_nil, ↓guard_ite, ↓pick_ite, seval, encT_eq, inR_i64, e0, e3, e9, e10, e11, e12, e13, e14, s11, s12, s13, s24, s27, s29, s35, s37]
      refine hK _ ?_
      clear hK K
      refine Wb ?_
      refine IWP.mid (fun x => x.env 240 = aBool false ∧ x.env 0 = aInts l ∧ x.env 9 = aStrs row ∧ x.env 10 = aInt n ∧ x.S 35 = none ∧ x.S 37 = none) ?_ rest
      cases ab with
      | false =>
        repeat' (first | (with_reducible first | refine Wa ?_ | refine Wb ?_ | refine Wc ?_ | refine Wd ?_ | refine We ?_ | refine Wf ?_ | refine Wg ?_ | refine Wh ?_ | refine Wi ?_ | refine Wj ?_ | refine Wk (by decide) ?_ | refine Wl ?_ | refine Wm ?_ | refine Wn ?_) | ((with_reducible first | refine Wo (fun K hK => ?_) | refine Wp ?_ | refine Wq ?_ | refine Wr ?_); (try simp only [go_sem, List.forall_mem_nil, ↓guard_ite, ↓pick_ite, seval, encT_eq, inR_i64, e14, decide_eq_true_eq, decide_eq_false_iff_not, Int.ofNat_lt]); (repeat with_reducible refine And.intro (by first | omega | (with_reducible first | exact lens_encT | exact lens_encL | exact lens_encB | exact lens_encP) | (simp; done) | (simp only [List.length_take, List.length_map, List.length_append, maxLen_eq]; omega)) ?_); (try (with_reducible refine hK _ ?_; clear hK K)); (try with_reducible refine ite_conj ?_)))
        refine ⟨rfl, ?_⟩
        simp only [go_sem, List.forall_mem_nil, ↓guard_ite, ↓pick_ite, seval, encT_eq, inR_i64, e0, e9, e10, s35, s37]
      | true =>
        have hxy := hxy rfl
        have hh := h1' rfl
        repeat' (first | (with_reducible first | refine Wa ?_ | refine Wb ?_ | refine Wc ?_ | refine Wd ?_ | refine We ?_ | refine Wf ?_ | refine Wg ?_ | refine Wh ?_ | refine Wi ?_ | refine Wj ?_ | refine Wk (by decide) ?_ | refine Wl ?_ | refine Wm ?_ | refine Wn ?_) | ((with_reducible first | refine Wo (fun K hK => ?_) | refine Wp ?_ | refine Wq ?_ | refine Wr ?_); (try simp only [go_sem, List.forall_mem_nil, ↓guard_ite, ↓pick_ite, seval, encT_eq, inR_i64, e14, hxy, hh, decide_eq_true_eq, decide_eq_false_iff_not, Int.ofNat_lt]); (repeat with_reducible refine And.intro (by first | omega | (with_reducible first | exact lens_encT | exact lens_encL | exact lens_encB | exact lens_encP) | (simp; done) | (simp only [List.length_take, List.length_map, List.length_append, maxLen_eq]; omega)) ?_); (try (with_reducible refine hK _ ?_; clear hK K)); (try with_reducible refine ite_conj ?_)))
        refine ⟨rfl, ?_⟩
        simp only [go_sem, List.forall_mem_nil, ↓guard_ite, ↓pick_ite, seval, encT_eq, inR_i64, e0, e9, e10, s35, s37]
    · rw [hx3] at p3
      repeat' (first | (with_reducible first | refine Wa ?_ | refine Wb ?_ | refine Wc ?_ | refine Wd ?_ | refine We ?_ | refine Wf ?_ | refine Wg ?_ | refine Wh ?_ | refine Wi ?_ | refine Wj ?_ | refine Wk (by decide) ?_ | refine Wl ?_ | refine Wm ?_ | refine Wn ?_) | refine CallG.mk _ (leaf_a ⟨#[99]⟩) ?_ | refine CallG.mk _ (wup) ?_ | refine CallG.mk _ (cs) ?_ | refine CallG.mk _ (on1) ?_ | refine CallG.mk _ (on2) ?_ | refine CallG.mk _ (z1) ?_ | refine CallG.mk _ (z2) ?_ | refine CallG.mk _ (wxy) ?_ | refine CallG.mk _ (p3) ?_ | ((with_reducible first | refine Wo (fun K hK => ?_) | refine Wp ?_ | refine Wq ?_ | refine Wr ?_); (try simp only [go_sem, List.forall_mem_nil, ↓guard_ite, ↓pick_ite, seval, encT_eq, inR_i64, e0, e3, e9, e10, e11, e12, e13, e14, s11, s12, s13, s24, s27, s29, s35, s37, y1, y2, decide_eq_true_eq, decide_eq_false_iff_not, Int.ofNat_lt]); (repeat with_reducible refine And.intro (by first | omega | (with_reducible first | exact lens_encT | exact lens_encL | exact lens_encB | exact lens_encP) | (simp; done) | (simp only [List.length_take, List.length_map, List.length_append, maxLen_eq]; omega)) ?_); (try (with_reducible refine hK _ ?_; clear hK K)); (try with_reducible refine ite_conj ?_)))
      refine CallG.mk _ w2 ?_
      refine Wq ?_
      simp only [go_sem, List.forall_mem_nil, ↓guard_ite, ↓pick_ite, seval, encT_eq, inR_i64, e0, e3, e9, e10, e11, e12, e13, e14, s11, s12, s13, s24, s27, s29, s35, s37]
      refine hK _ ?_
      clear hK K
      refine Wb ?_
      refine IWP.mid (fun x => x.env 240 = aBool false ∧ x.env 0 = aInts l ∧ x.env 9 = aStrs row ∧ x.env 10 = aInt n ∧ x.S 35 = none ∧ x.S 37 = none) ?_ rest
      cases ab with
      | false =>
        repeat' (first | (with_reducible first | refine Wa ?_ | refine Wb ?_ | refine Wc ?_ | refine Wd ?_ | refine We ?_ | refine Wf ?_ | refine Wg ?_ | refine Wh ?_ | refine Wi ?_ | refine Wj ?_ | refine Wk (by decide) ?_ | refine Wl ?_ | refine Wm ?_ | refine Wn ?_) | ((with_reducible first | refine Wo (fun K hK => ?_) | refine Wp ?_ | refine Wq ?_ | refine Wr ?_); (try simp only [go_sem, List.forall_mem_nil, ↓guard_ite, ↓pick_ite, seval, encT_eq, inR_i64, e14, decide_eq_true_eq, decide_eq_false_iff_not, Int.ofNat_lt]); (repeat with_reducible refine And.intro (by first | omega | (with_reducible first | exact lens_encT | exact lens_encL | exact lens_encB | exact lens_encP) | (simp; done) | (simp only [List.length_take, List.length_map, List.length_append, maxLen_eq]; omega)) ?_); (try (with_reducible refine hK _ ?_; clear hK K)); (try with_reducible refine ite_conj ?_)))
        refine ⟨rfl, ?_⟩
        simp only [go_sem, List.forall_mem_nil, ↓guard_ite, ↓pick_ite, seval, encT_eq, inR_i64, e0, e9, e10, s35, s37]
      | true =>
        have hxy := hxy rfl
        have hh := h2' rfl
        repeat' (first | (with_reducible first | refine Wa ?_ | refine Wb ?_ | refine Wc ?_ | refine Wd ?_ | refine We ?_ | refine Wf ?_ | refine Wg ?_ | refine Wh ?_ | refine Wi ?_ | refine Wj ?_ | refine Wk (by decide) ?_ | refine Wl ?_ | refine Wm ?_ | refine Wn ?_) | ((with_reducible first | refine Wo (fun K hK => ?_) | refine Wp ?_ | refine Wq ?_ | refine Wr ?_); (try simp only [go_sem, List.forall_mem_nil, ↓guard_ite, ↓pick_ite, seval, encT_eq, inR_i64, e14, hxy, hh, decide_eq_true_eq, decide_eq_false_iff_not, Int.ofNat_lt]); (repeat with_reducible refine And.intro (by first | omega | (with_reducible first | exact lens_encT | exact lens_encL | exact lens_encB | exact lens_encP) | (simp; done) | (simp only [List.length_take, List.length_map, List.length_append, maxLen_eq]; omega)) ?_); (try (with_reducible refine hK _ ?_; clear hK K)); (try with_reducible refine ite_conj ?_)))
        refine ⟨rfl, ?_⟩
        simp only [go_sem, List.forall_mem_nil, ↓guard_ite, ↓pick_ite, seval, encT_eq, inR_i64, e0, e9, e10, s35, s37]
  rintro ⟨env, S⟩ ⟨e240, e0, e9, e10, s35, s37⟩
  simp only at e240 e0 e9 e10 s35 s37
  by_cases hpqe : p = q
  · have hb : p.beq q = true := (Tm.beq_iff p q).2 hpqe
    rw [hb] at hsame
    repeat' (first | (with_reducible first | refine Wa ?_ | refine Wb ?_ | refine Wc ?_ | refine Wd ?_ | refine We ?_ | refine Wf ?_ | refine Wg ?_ | refine Wh ?_ | refine Wi ?_ | refine Wj ?_ | refine Wk (by decide) ?_ | refine Wl ?_ | refine Wm ?_ | refine Wn ?_) | refine CallG.mk _ (cp) ?_ | refine CallG.mk _ (cq) ?_ | refine CallG.mk _ (wpq) ?_ | refine CallG.mk _ (wqp) ?_ | refine CallG.mk _ (hsame) ?_ | ((with_reducible first | refine Wo (fun K hK => ?_) | refine Wp ?_ | refine Wq ?_ | refine Wr ?_); (try simp only [go_sem, List.forall_mem_nil, ↓guard_ite, ↓pick_ite, seval, encT_eq, inR_i64, e0, e9, e10, s35, s37, decide_eq_true_eq, decide_eq_false_iff_not, Int.ofNat_lt]); (repeat with_reducible refine And.intro (by first | omega | (with_reducible first | exact lens_encT | exact lens_encL | exact lens_encB | exact lens_encP) | (simp; done) | (simp only [List.length_take, List.length_map, List.length_append, maxLen_eq]; omega)) ?_); (try (with_reducible refine hK _ ?_; clear hK K)); (try with_reducible refine ite_conj ?_)))
    simp only [go_sem, List.forall_mem_nil, ↓guard_ite, ↓pick_ite, seval, FinQ, AS.result, resAll, resOne, tupV]
  · have hb : p.beq q = false := by rw [← Bool.not_eq_true, Tm.beq_iff]; exact hpqe
    have hpq := hpq hpqe
    rw [hb] at hsame
    repeat' (first | (with_reducible first | refine Wa ?_ | refine Wb ?_ | refine Wc ?_ | refine Wd ?_ | refine We ?_ | refine Wf ?_ | refine Wg ?_ | refine Wh ?_ | refine Wi ?_ | refine Wj ?_ | refine Wk (by decide) ?_ | refine Wl ?_ | refine Wm ?_ | refine Wn ?_) | refine CallG.mk _ (cp) ?_ | refine CallG.mk _ (cq) ?_ | refine CallG.mk _ (wpq) ?_ | refine CallG.mk _ (wqp) ?_ | refine CallG.mk _ (hsame) ?_ | ((with_reducible first | refine Wo (fun K hK => ?_) | refine Wp ?_ | refine Wq ?_ | refine Wr ?_); (try simp only [go_sem, List.forall_mem_nil, ↓guard_ite, ↓pick_ite, seval, encT_eq, inR_i64, e0, e9, e10, s35, s37, hpq, decide_eq_true_eq, decide_eq_false_iff_not, Int.ofNat_lt]); (repeat with_reducible refine And.intro (by first | omega | (with_reducible first | exact lens_encT | exact lens_encL | exact lens_encB | exact lens_encP) | (simp; done) | (simp only [List.length_take, List.length_map, List.length_append, maxLen_eq]; omega)) ?_); (try (with_reducible refine hK _ ?_; clear hK K)); (try with_reducible refine ite_conj ?_)))
    simp only [go_sem, List.forall_mem_nil, ↓guard_ite, ↓pick_ite, seval, FinQ, AS.result, resAll, resOne, tupV]
end Go.Proofs.Ytpajlfdhmjgpnaa
