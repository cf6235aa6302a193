/-
  Part 18 of the texts: BLamPut; BInf5; BInf4B; BInf5B; BInf6; IrRed; PRed; PRed2; BRed; IrCon; BCon. Conditions: none.
-/
import Derived.Test.YtehnjhkndbcmgaaGreatDoorInM17
namespace Go.Proofs.YtehnjhkndbcmgaaGreatDoor
open Go Go.RowKit
set_option linter.unusedVariables false
set_option linter.unusedSimpArgs false
set_option maxHeartbeats 400000
set_option maxHeartbeats 1000000 in
theorem lchkR_a (t : Lm) (u m : Int) (hu : 0 ≤ u) (hz : u + t.size ≤ 1000000000) : ACalls Tryz.prog 36 [aLm t, aInt u, aInt m] (aInt (t.chk m u)) := by
  induction h : SizeOf.sizeOf t using Nat.strongRecOn generalizing t u with
  | _ N ih =>
  subst h
  have hs := Lm.size_eq t
  have hlen := Lm.length_le t.subs
  refine ac_R_lamMay (Nat.le_of_ble_eq_true rfl) fun C hC => ?_
  unfold ir_R_lamMay
  by_cases hk : 1 ≤ t.kind ∧ t.kind ≤ 5
  case neg =>
    rw [Lm.chk_eq, if_neg (fun h => hk ⟨h.1, h.2.1⟩)]
    have q1 : ¬ t.kind = 1 := by omega
    have q2 : ¬ t.kind = 2 := by omega
    have q3 : ¬ t.kind = 3 := by omega
    have q4 : ¬ t.kind = 4 := by omega
    have q5 : ¬ t.kind = 5 := by omega
    repeat' (first | (with_reducible first | refine W ?_ | refine Wk (by decide) ?_) | ((with_reducible first | refine Wo (fun K hK => ?_) | refine Wp ?_ | refine Wq ?_ | refine Wr ?_); (try simp only [go_sem, fN, ↓gI, ↓pI, seval, eT, iR, q1, q2, q3, q4, q5, dT, dF, nL]); (repeat with_reducible refine And.intro (by first | omega | exact lens | (simp [maxLen_eq] <;> omega)) ?_); (try (refine hK _ ?_; clear hK K)); (try with_reducible refine iC ?_)))
    simp only [go_sem, fN, ↓gI, ↓pI, seval, FinQ, AS.result, resAll, resOne, tupV]
  case pos =>
  have hk5 := kinds_of hk
  by_cases hl : (t.subs.length : Int) = nSubs t.kind
  case neg =>
    rw [Lm.chk_eq, if_neg (fun h => hl h.2.2)]
    rcases hk5 with hk5 | hk5 | hk5 | hk5 | hk5
    all_goals
      simp only [hk5, nSubs, Int.reduceEq, ↓reduceIte] at hl
      repeat' (first | (with_reducible first | refine W ?_ | refine Wk (by decide) ?_) | ((with_reducible first | refine Wo (fun K hK => ?_) | refine Wp ?_ | refine Wq ?_ | refine Wr ?_); (try simp only [go_sem, fN, ↓gI, ↓pI, seval, eT, iR, hk5, hl, dT, dF, nL]); (repeat with_reducible refine And.intro (by first | omega | exact lens | (simp [maxLen_eq] <;> omega)) ?_); (try (refine hK _ ?_; clear hK K)); (try with_reducible refine iC ?_)))
      simp only [go_sem, fN, ↓gI, ↓pI, seval, FinQ, AS.result, resAll, resOne, tupV]
  case pos =>
  by_cases h0 : t.idx < 0
  case pos =>
    rw [Lm.chk_eq, if_pos ⟨hk.1, hk.2, hl⟩, if_neg (fun h => by omega)]
    rcases hk5 with hk5 | hk5 | hk5 | hk5 | hk5
    all_goals
      simp only [hk5, nSubs, Int.reduceEq, ↓reduceIte] at hl
      repeat' (first | (with_reducible first | refine W ?_ | refine Wk (by decide) ?_) | ((with_reducible first | refine Wo (fun K hK => ?_) | refine Wp ?_ | refine Wq ?_ | refine Wr ?_); (try simp only [go_sem, fN, ↓gI, ↓pI, seval, eT, iR, hk5, hl, h0, dT, dF, nL]); (repeat with_reducible refine And.intro (by first | omega | exact lens | (simp [maxLen_eq] <;> omega)) ?_); (try (refine hK _ ?_; clear hK K)); (try with_reducible refine iC ?_)))
      simp only [go_sem, fN, ↓gI, ↓pI, seval, FinQ, AS.result, resAll, resOne, tupV]
  case neg =>
  by_cases hm : mostIdx t.kind u m ≤ t.idx
  case pos =>
    rw [Lm.chk_eq, if_pos ⟨hk.1, hk.2, hl⟩, if_neg (fun h => by omega)]
    rcases hk5 with hk5 | hk5 | hk5 | hk5 | hk5
    all_goals
      simp only [hk5, nSubs, mostIdx, Int.reduceEq, ↓reduceIte] at hl hm
      repeat' (first | (with_reducible first | refine W ?_ | refine Wk (by decide) ?_) | ((with_reducible first | refine Wo (fun K hK => ?_) | refine Wp ?_ | refine Wq ?_ | refine Wr ?_); (try simp only [go_sem, fN, ↓gI, ↓pI, seval, eT, iR, hk5, hl, h0, hm, dT, dF, nL]); (repeat with_reducible refine And.intro (by first | omega | exact lens | (simp [maxLen_eq] <;> omega)) ?_); (try (refine hK _ ?_; clear hK K)); (try with_reducible refine iC ?_)))
      simp only [go_sem, fN, ↓gI, ↓pI, seval, FinQ, AS.result, resAll, resOne, tupV]
  case neg =>
  rw [Lm.chk_eq, if_pos ⟨hk.1, hk.2, hl⟩, if_pos (by omega)]
  rcases hk5 with hk5 | hk5 | hk5 | hk5 | hk5
  all_goals
    simp only [hk5, nSubs, mostIdx, Int.reduceEq, ↓reduceIte] at hl hm
    repeat' (first | (with_reducible first | refine W ?_ | refine Wk (by decide) ?_) | ((with_reducible first | refine Wo (fun K hK => ?_) | refine Wp ?_ | refine Wq ?_ | refine Wr ?_); (try simp only [go_sem, fN, ↓gI, ↓pI, seval, eT, iR, hk5, hl, h0, hm, dT, dF, nL]); (repeat with_reducible refine And.intro (by first | omega | exact lens | (simp [maxLen_eq] <;> omega)) ?_); (try (refine hK _ ?_; clear hK K)); (try with_reducible refine iC ?_)))
    refine IWP.loop (fun n s => ∃ k, k ≤ t.subs.length ∧ n = t.subs.length - k ∧ Lm.chks m (t.subs.take k) (under t.kind u) = 0 ∧ s.env 2 = aInt m ∧ s.env 3 = .one (.ptr 3 1 0 0) ∧ s.S 3 = some (.box 24 [.st (.int .i64 t.kind), .st (.int .i64 t.idx), .st (.list (t.subs.map encL))]) ∧ s.env 8 = aInt t.subs.length ∧ s.env 9 = aInt (under t.kind u) ∧ s.env 10 = aInt k) t.subs.length ⟨0, Nat.zero_le _, rfl, rfl, rfl, rfl, by simp only [hk5]; rfl, by simp only [go_sem, fN, ↓gI, ↓pI, seval, eT, iR, hl], by simp only [hk5, under]; rfl, rfl⟩ ?_
    rintro n ⟨env, S⟩ ⟨k, hk', rfl, hc, e2, e3, s3, e8, e9, e10⟩
    simp only at e2 e3 s3 e8 e9 e10
    by_cases hlt : (k : Int) < t.subs.length
    · obtain ⟨a, ha⟩ := get_lt (show k < t.subs.length by omega)
      have z3 := Lm.size_mem (mem_of_get ha)
      have hu2 : under t.kind u ≤ u + 1 ∧ 0 ≤ under t.kind u := by unfold under; split <;> omega
      repeat' (first | (with_reducible first | refine W ?_ | refine Wk (by decide) ?_) | ((with_reducible first | refine Wo (fun K hK => ?_) | refine Wp ?_ | refine Wq ?_ | refine Wr ?_); (try simp only [go_sem, fN, ↓gI, ↓pI, seval, eT, iR, e2, e3, s3, e8, e9, e10, ha, hlt, dT, dF, nL]); (repeat with_reducible refine And.intro (by first | omega | exact lens | (simp [maxLen_eq] <;> omega)) ?_); (try (refine hK _ ?_; clear hK K)); (try with_reducible refine iC ?_)))
      refine ⟨_, ih _ (Lm.lt_of_sub (mem_of_get ha)) a (under t.kind u) hu2.2 (by omega) rfl, ?_⟩
      by_cases hr : a.chk m (under t.kind u) = 0
      · repeat' (first | (with_reducible first | refine W ?_ | refine Wk (by decide) ?_) | ((with_reducible first | refine Wo (fun K hK => ?_) | refine Wp ?_ | refine Wq ?_ | refine Wr ?_); (try simp only [go_sem, fN, ↓gI, ↓pI, seval, eT, iR, e2, e3, s3, e8, e9, e10, hr, dT, dF, nL]); (repeat with_reducible refine And.intro (by first | omega | exact lens | (simp [maxLen_eq] <;> omega)) ?_); (try (refine hK _ ?_; clear hK K)); (try with_reducible refine iC ?_)))
        refine then_normal ⟨t.subs.length - (k + 1), by omega, k + 1, by omega, rfl, ?_⟩
        simp only [go_sem, fN, ↓gI, ↓pI, seval, eT, iR, e2, e3, s3, e8, e9, e10]
        exact ⟨by rw [Lm.chks_take ha hc, hr], by congr 3⟩
      · repeat' (first | (with_reducible first | refine W ?_ | refine Wk (by decide) ?_) | ((with_reducible first | refine Wo (fun K hK => ?_) | refine Wp ?_ | refine Wq ?_ | refine Wr ?_); (try simp only [go_sem, fN, ↓gI, ↓pI, seval, eT, iR, e2, e3, s3, e8, e9, e10, hr, dT, dF, nL]); (repeat with_reducible refine And.intro (by first | omega | exact lens | (simp [maxLen_eq] <;> omega)) ?_); (try (refine hK _ ?_; clear hK K)); (try with_reducible refine iC ?_)))
        simp only [go_sem, fN, ↓gI, ↓pI, seval, FinQ, AS.result, resAll, resOne, tupV]
        simp only [hk5] at hc hr ⊢
        rw [Lm.chks_bad (k := k + 1) (by rw [Lm.chks_take ha hc]; exact hr), Lm.chks_take ha hc]
    · repeat' (first | (with_reducible first | refine W ?_ | refine Wk (by decide) ?_) | ((with_reducible first | refine Wo (fun K hK => ?_) | refine Wp ?_ | refine Wq ?_ | refine Wr ?_); (try simp only [go_sem, fN, ↓gI, ↓pI, seval, eT, iR, e2, e3, s3, e8, e9, e10, hlt, dT, dF, nL]); (repeat with_reducible refine And.intro (by first | omega | exact lens | (simp [maxLen_eq] <;> omega)) ?_); (try (refine hK _ ?_; clear hK K)); (try with_reducible refine iC ?_)))
      simp only [go_sem, fN, ↓gI, ↓pI, seval, FinQ, AS.result, resAll, resOne, tupV]
      rw [List.take_of_length_le (by omega)] at hc
      simp only [hk5] at hc ⊢
      rw [hc]
theorem lMay_a (t : Lm) (u m : Int) : ACalls Tryz.prog 13 [aLm t, aInt u, aInt m] (aInt (t.may m u)) := by
  refine ac_R_LamMay (Nat.le_of_ble_eq_true rfl) fun C hC => ?_
  unfold ir_R_LamMay
  unfold Lm.may
  by_cases h0 : u < 0
  · rw [if_pos (Or.inl h0)]
    repeat' (first | (with_reducible first | refine W ?_ | refine Wk (by decide) ?_) | ((with_reducible first | refine Wo (fun K hK => ?_) | refine Wp ?_ | refine Wq ?_ | refine Wr ?_); (try simp only [go_sem, fN, ↓gI, ↓pI, seval, eT, iR, h0, dT, dF, nL]); (repeat with_reducible refine And.intro (by first | omega | exact lens | (simp [maxLen_eq] <;> omega)) ?_); (try (refine hK _ ?_; clear hK K)); (try with_reducible refine iC ?_)))
    simp only [go_sem, fN, ↓gI, ↓pI, seval, FinQ, AS.result, resAll, resOne, tupV]
  by_cases h1 : 40 < u
  · rw [if_pos (Or.inr h1)]
    repeat' (first | (with_reducible first | refine W ?_ | refine Wk (by decide) ?_) | ((with_reducible first | refine Wo (fun K hK => ?_) | refine Wp ?_ | refine Wq ?_ | refine Wr ?_); (try simp only [go_sem, fN, ↓gI, ↓pI, seval, eT, iR, h0, h1, dT, dF, nL]); (repeat with_reducible refine And.intro (by first | omega | exact lens | (simp [maxLen_eq] <;> omega)) ?_); (try (refine hK _ ?_; clear hK K)); (try with_reducible refine iC ?_)))
    simp only [go_sem, fN, ↓gI, ↓pI, seval, FinQ, AS.result, resAll, resOne, tupV]
  rw [if_neg (by omega)]
  by_cases hz : 200 < t.size
  · have hz' : 200 < capTo t.size 200 := by unfold capTo; split <;> omega
    rw [if_pos hz]
    repeat' (first | (with_reducible first | refine W ?_ | refine Wk (by decide) ?_) | refine Cg _ (lsizeR_a t 200 (by decide) (by decide)) ?_ | ((with_reducible first | refine Wo (fun K hK => ?_) | refine Wp ?_ | refine Wq ?_ | refine Wr ?_); (try simp only [go_sem, fN, ↓gI, ↓pI, seval, eT, iR, h0, h1, hz', dT, dF, nL]); (repeat with_reducible refine And.intro (by first | omega | exact lens | (simp [maxLen_eq] <;> omega)) ?_); (try (refine hK _ ?_; clear hK K)); (try with_reducible refine iC ?_)))
    simp only [go_sem, fN, ↓gI, ↓pI, seval, FinQ, AS.result, resAll, resOne, tupV]
  · have hz' : ¬ 200 < capTo t.size 200 := by unfold capTo; split <;> omega
    rw [if_neg hz]
    repeat' (first | (with_reducible first | refine W ?_ | refine Wk (by decide) ?_) | refine Cg _ (lsizeR_a t 200 (by decide) (by decide)) ?_ | refine Cg _ (lchkR_a t u m (by omega) (by omega)) ?_ | ((with_reducible first | refine Wo (fun K hK => ?_) | refine Wp ?_ | refine Wq ?_ | refine Wr ?_); (try simp only [go_sem, fN, ↓gI, ↓pI, seval, eT, iR, h0, h1, hz', dT, dF, nL]); (repeat with_reducible refine And.intro (by first | omega | exact lens | (simp [maxLen_eq] <;> omega)) ?_); (try (refine hK _ ?_; clear hK K)); (try with_reducible refine iC ?_)))
    simp only [go_sem, fN, ↓gI, ↓pI, seval, FinQ, AS.result, resAll, resOne, tupV]
theorem hugeLam_a (t : Lm) : ACalls Tryz.prog 7 [aLm t] (aBool (decide (3000 < t.size))) := by
  refine ac_L_hugeLam (Nat.le_of_ble_eq_true rfl) fun C hC => ?_
  unfold ir_L_hugeLam
  repeat' (first | (with_reducible first | refine W ?_ | refine Wk (by decide) ?_) | ((with_reducible first | refine Wo (fun K hK => ?_) | refine Wp ?_ | refine Wq ?_ | refine Wr ?_); (try simp only [go_sem, fN, ↓gI, ↓pI, seval, eT, iR, dT, dF, nL]); (repeat with_reducible refine And.intro (by first | omega | exact lens | (simp [maxLen_eq] <;> omega)) ?_); (try (refine hK _ ?_; clear hK K)); (try with_reducible refine iC ?_)))
  refine ⟨_, lsizeR_a t 3000 (by decide) (by decide), ?_⟩
  have hz : (3000 < capTo t.size 3000) ↔ 3000 < t.size := by unfold capTo; split <;> omega
  repeat' (first | (with_reducible first | refine W ?_ | refine Wk (by decide) ?_) | ((with_reducible first | refine Wo (fun K hK => ?_) | refine Wp ?_ | refine Wq ?_ | refine Wr ?_); (try simp only [go_sem, fN, ↓gI, ↓pI, seval, eT, iR, hz, dT, dF, nL]); (repeat with_reducible refine And.intro (by first | omega | exact lens | (simp [maxLen_eq] <;> omega)) ?_); (try (refine hK _ ?_; clear hK K)); (try with_reducible refine iC ?_)))
  simp only [go_sem, fN, ↓gI, ↓pI, seval, FinQ, AS.result, resAll, resOne, tupV]
end Go.Proofs.YtehnjhkndbcmgaaGreatDoor

namespace Go.Proofs.YtehnjhkndbcmgaaGreatDoor
open Go Go.RowKit
set_option linter.unusedVariables false
set_option linter.unusedSimpArgs false
set_option maxHeartbeats 2000000
theorem Ghost.ownCellA {C : Ctx} {s : AS} {id r : Nat} {e e' : TypeId} {cs : List AC} (j wd : Nat) (hS : s.S id = some (.box e cs)) (hj : cs[j]? = some (.full [])) (hr : s.S r = none) (hne : id ≠ r) :
    Ghost C s ((s.set r (.arow e' wd [])).set id (.box e (cs.set j (.row r 0)))) := fun a w ⟨σ, ι, R⟩ => by
  have hb := R.blk _ _ hS
  cases hb with
  | @box _ _ g vs k1 k2 k3 k4 k5 =>
    obtain ⟨v, hv, hvr⟩ := k4.get hj
    cases hvr with
    | @full p len xs hs =>
      have hl : len = 0 := by
        obtain ⟨p', cap', e1, _⟩ := srep_slice hs
        cases e1
        rfl
      subst hl
      obtain ⟨hu, R'⟩ := R.fresh (w' := w) hr (.arow e' wd []) ⟨p, 0, none⟩ (Ext.refl _ _) R.fit (Below.refl _ _) (by simp) (fun S' ι' hu => .afull rfl rfl (by simp) hs)
      have hS' : (s.set r (.arow e' wd [])).S id = some (.box e cs) := by simp [AS.set, updE_ne _ hne, hS]
      have hι : updE ι r ⟨p, 0, none⟩ id = ι id := updE_ne _ hne _
      obtain ⟨hu2, R2⟩ := R'.turn (w' := w) hS' (.box e (cs.set j (.row r 0))) (updE ι r ⟨p, 0, none⟩ id) (σ' := σ) (fun _ _ h => h) (fun _ _ _ => rfl) R.fit (by simp [ABlk.len]) (fun _ => ⟨rfl, rfl⟩) ⟨rfl, rfl, rfl⟩ (Nat.le_refl _) (fun _ _ _ => rfl) (fun g h => .inl h)
        (fun hu2 => by
          rw [hι] at hu2 ⊢
          refine .box k1 k2 k3 (All2.of_get (by rw [List.length_set]; exact k4.len) fun q u c hu3 hc => ?_) k5
          by_cases e2 : q = j
          · subst e2
            rw [hv] at hu3
            cases hu3
            rw [List.getElem?_set_self (List.getElem?_eq_some_iff.1 hj).1] at hc
            cases hc
            refine .row (b := .arow e' wd []) (by simp [AS.set, updE, Ne.symm hne]) (Nat.le_refl _) rfl fun _ => ?_
            simp [updE, Ne.symm hne]
          · rw [List.getElem?_set_ne (fun e => e2 e.symm)] at hc
            obtain ⟨u', hu', hr'⟩ := k4.get hc
            rw [hu3] at hu'
            cases hu'
            exact (hr'.mono (fun _ _ h => h) hu).mono (fun _ _ h => h) hu2)
      exact ⟨σ, _, R2⟩
theorem acallsS_full {P : Program} {f : FuncId} {x y : AV} {S : AStore} {r : AV} {S' : AStore} {xs : List (List SV)} (h : ACallsS P f [x, y, .one (.st (.list xs))] S r S') : ACallsS P f [x, y, .one (.full xs)] S r S' := by
  intro hc σ w vs ι hg hf ho hv
  refine h hc σ w vs ι hg hf ho ?_
  cases hv with
  | cons h1 hv =>
  cases hv with
  | cons h2 hv =>
  cases hv with
  | cons h3 hv =>
  cases hv
  exact .cons h1 (.cons h2 (.cons (.one (.st (arep_full (vrep_one h3)))) .nil))
def tNames (n : Nat) : List ByteArray := fS :: (List.range (n + 1)).map (lName 84)
theorem inT_names {n : Nat} {t : Tm} (h : inT n t) : ∀ y, occ y t = true → y ∈ tNames n := fun y hy => by
  rcases h.2 y hy with rfl | ⟨k, k1, k2, rfl⟩
  · exact List.mem_cons_self
  · exact List.mem_cons_of_mem _ (List.mem_map.2 ⟨k, List.mem_range.2 (by omega), rfl⟩)
theorem fits_long (v : Nat) (hv : v ≤ 5000) (s : List Bd) : ∀ (l : List Pr), l.length ≤ 1000000 → Fits 100000000000 v s l
  | [], _ => trivial
  | p :: l, h => by
    rw [List.length_cons] at h
    have := Nat.min_le_right (p.1.on s).size 2000
    exact ⟨by omega, fits_long v hv s l (by omega)⟩
theorem good_eqs {K : Nat} (hK : K ≤ 2000) {m : List Pr × Nat} (hm : TyOk K m) (hn : m.2 ≤ 2000) (hl : m.1.length ≤ 2000) : UGood (tNames m.2) 100000000000 [] m.1 := by
  refine ⟨List.Pairwise.nil, by simp, by simp, by simp, by simp, by simp, by simp, fun p hp => ⟨(hm.eqs p hp).1.1.1.chk, (hm.eqs p hp).2.1.1.chk⟩, fun p hp y => ⟨inT_names (hm.eqs p hp).1.1 y, inT_names (hm.eqs p hp).2.1 y⟩, fun p hp => ?_, fits_long _ (by simp [tNames]; omega) [] m.1 (by omega)⟩
  have := hm.eqs p hp
  omega
end Go.Proofs.YtehnjhkndbcmgaaGreatDoor

namespace Go.Proofs.YtehnjhkndbcmgaaGreatDoor
open Go Go.RowKit
set_option linter.unusedVariables false
set_option linter.unusedSimpArgs false
set_option maxHeartbeats 2000000
structure RelE (env : Nat → Option BT) (hv kn : List (List SV)) : Prop where
  hl : hv.length = 2001
  kl : kn.length = 2001
  hw : ∀ x ∈ hv, x.length = 2
  kn : ∀ i, i < 2001 → kn[i]? = some [.bool (env i).isSome]
  hv : ∀ i b, i < 2001 → env i = some b → hv[i]? = some (encY b.ty)
abbrev tyT : TypeId := 27
abbrev boT : TypeId := 4
def csS (S : AStore) (h k : Nat) (hv kn : List (List SV)) : AStore := updE (updE S h (some (.mrow tyT 2 hv))) k (some (.mrow boT 1 kn))
def CaseC (p t : BT) (b : Bool) (hv kn hv' kn' : List (List SV)) : Prop :=
  ∀ (h k : Nat) (S : AStore), 1000 ≤ h → 1000 ≤ k → h ≠ k → S h = some (.mrow tyT 2 hv) → S k = some (.mrow boT 1 kn) →
    ACallsS Tryz.prog 48 [aTy p.ty, aTy t.ty, .one (.row h 2001), .one (.row k 2001)] S (aBool b) (csS S h k hv' kn')
theorem csS_end {C : Ctx} {rs : List RV} {r : AV} {e : AX} {s : AS} {S : AStore} {h k : Nat} {hv kn : List (List SV)} (rv : AV) (hS : Clean S) (hh : 1000 ≤ h) (hk : 1000 ≤ k) (hne : h ≠ k) (he : match e with | .normal => True | .ret => True | _ => False)
    (h1 : (resAll s rs).map tupV = some rv) (h2 : outV s.S rv = some r) (h3 : s.S h = some (.mrow tyT 2 hv)) (h3' : s.S k = some (.mrow boT 1 kn)) (h4 : ∀ i, 1000 ≤ i → i ≠ h → i ≠ k → s.S i = S i) : FinS C rs r (csS S h k hv kn) e s :=
  finS_two rv hS hh hk (fun e => hne e.symm) rfl rfl he h1 h2 h3 h3' h4
set_option maxHeartbeats 8000000 in
theorem typeCase_S (p : BT) (hp : p.low 2001) : ∀ (t : BT) {env : Nat → Option BT} {hv kn : List (List SV)}, RelE env hv kn → ∃ hv' kn', (∀ e, p.cs t env = some e → RelE e hv' kn') ∧ hv'.length = 2001 ∧ kn'.length = 2001 ∧ CaseC p t (p.cs t env).isSome hv kn hv' kn' := by
  induction p with
  | b n =>
    intro t env hv kn R
    have hp : n < 2001 := hp
    have hkn := R.kn n hp
    have hvl := R.hl
    have knl := R.kl
    obtain ⟨x0, hx0⟩ := get_lt (show n < hv.length by omega)
    obtain ⟨u0, v0, rfl⟩ := list_two (R.hw x0 (mem_of_get hx0))
    rw [BT.cs]
    cases he : env n with
    | some x =>
      rw [he] at hkn
      have hxv := R.hv n x hp he
      rw [hx0] at hxv
      simp only [encY_eq, Option.some.injEq, List.cons.injEq, and_true] at hxv
      obtain ⟨rfl, rfl⟩ := hxv
      refine ⟨hv, kn, fun e hh => ?_, hvl, knl, ?_⟩
      · simp only at hh
        split at hh
        · cases hh; exact R
        · cases hh
      · intro h k S hh hk hne hSh hSk
        have hne2 : ¬ k = h := fun e => hne e.symm
        have h4 : ¬ h = 4 := by omega
        have h5 : ¬ h = 5 := by omega
        have k4 : ¬ k = 4 := by omega
        have k5 : ¬ k = 5 := by omega
        refine acS_R_TypeCase (Nat.le_of_ble_eq_true rfl) fun hS C hC => ?_
        have s4 : S 4 = none := clean_none hS (by omega)
        have s5 : S 5 = none := clean_none hS (by omega)
        have hn2 : n < kn.length := by omega
        have hn3 : n < hv.length := by omega
        unfold ir_R_TypeCase
        repeat' (first | (with_reducible first | refine W ?_ | refine Wk (by decide) ?_) | refine Cg _ (sameTy_a x t) ?_ | ((with_reducible first | refine Wo (fun K hK => ?_) | refine Wp ?_ | refine Wq ?_ | refine Wr ?_); (try simp only [go_sem, fN, ↓gI, ↓pI, seval, eT, iR, s4, s5, h4, h5, k4, k5, hSh, hSk, hkn, hvl, knl, hx0, hp, Option.isSome_some, Option.isSome_none, dT, dF, nL]); (repeat with_reducible refine And.intro (by first | omega | exact lens | (simp [maxLen_eq] <;> omega)) ?_); (try (refine hK _ ?_; clear hK K)); (try with_reducible refine iC ?_)))
        refine csS_end (aBool (decide (x = t))) hS hh hk hne trivial ?_ ?_ ?_ ?_ fun i hi i1 i2 => ?_
        · simp only [go_sem, fN, ↓gI, ↓pI, seval, eT, iR, resAll, resOne, tupV]
        · simp only [go_sem, fN, ↓gI, ↓pI, seval, eT, iR]
          by_cases hxt : x = t <;> simp [hxt]
        · simp only [go_sem, fN, ↓gI, ↓pI, seval, eT, iR, h4, h5, hSh]
        · simp only [go_sem, fN, ↓gI, ↓pI, seval, eT, iR, k4, k5, hSk]
        · have i4 : ¬ i = 4 := by omega
          have i5 : ¬ i = 5 := by omega
          simp only [go_sem, fN, ↓gI, ↓pI, seval, eT, iR, i4, i5]
    | none =>
      rw [he] at hkn
      refine ⟨hv.set n (encY t.ty), kn.set n [.bool true], fun e hh => ?_, by rw [List.length_set]; exact hvl, by rw [List.length_set]; exact knl, ?_⟩
      · simp only [Option.some.injEq] at hh
        subst hh
        refine ⟨by rw [List.length_set]; exact hvl, by rw [List.length_set]; exact knl, fun x hx => ?_, fun i hi => ?_, fun i b hi hb => ?_⟩
        · rcases List.mem_or_eq_of_mem_set hx with hx | rfl
          · exact R.hw x hx
          · rw [encY_eq]; rfl
        · by_cases e : i = n
          · subst e
            rw [List.getElem?_set_self (by omega), if_pos rfl]
            rfl
          · rw [List.getElem?_set_ne (fun e' => e e'.symm), if_neg e, R.kn i hi]
        · by_cases e : i = n
          · subst e
            rw [if_pos rfl] at hb
            cases hb
            rw [List.getElem?_set_self (by omega)]
          · rw [if_neg e] at hb
            rw [List.getElem?_set_ne (fun e' => e e'.symm), R.hv i b hi hb]
      · intro h k S hh hk hne hSh hSk
        have hne2 : ¬ k = h := fun e => hne e.symm
        have h4 : ¬ h = 4 := by omega
        have h5 : ¬ h = 5 := by omega
        have k4 : ¬ k = 4 := by omega
        have k5 : ¬ k = 5 := by omega
        have q4 : ¬ 4 = h := by omega
        have q5 : ¬ 5 = h := by omega
        have p4 : ¬ 4 = k := by omega
        have p5 : ¬ 5 = k := by omega
        refine acS_R_TypeCase (Nat.le_of_ble_eq_true rfl) fun hS C hC => ?_
        have s4 : S 4 = none := clean_none hS (by omega)
        have s5 : S 5 = none := clean_none hS (by omega)
        unfold ir_R_TypeCase
        repeat' (first | (with_reducible first | refine W ?_ | refine Wk (by decide) ?_) | ((with_reducible first | refine Wo (fun K hK => ?_) | refine Wp ?_ | refine Wq ?_ | refine Wr ?_); (try simp only [go_sem, fN, ↓gI, ↓pI, seval, eT, iR, s4, s5, h4, h5, k4, k5, q4, q5, p4, p5, hne, hne2, hSh, hSk, hkn, hvl, knl, hx0, hp, Option.isSome_some, Option.isSome_none, List.length_set, dT, dF, nL]); (repeat with_reducible refine And.intro (by first | omega | exact lens | (simp [maxLen_eq] <;> omega)) ?_); (try (refine hK _ ?_; clear hK K)); (try with_reducible refine iC ?_)))
        refine csS_end (aBool true) hS hh hk hne trivial ?_ ?_ ?_ ?_ fun i hi i1 i2 => ?_
        · simp only [go_sem, fN, ↓gI, ↓pI, seval, eT, iR, resAll, resOne, tupV]
        · simp only [go_sem, fN, ↓gI, ↓pI, seval, eT, iR]
          try rfl
        · simp only [go_sem, fN, ↓gI, ↓pI, seval, eT, iR, h4, h5, hne, hSh]
        · simp only [go_sem, fN, ↓gI, ↓pI, seval, eT, iR, k4, k5, hne2, hSk]
        · have i4 : ¬ i = 4 := by omega
          have i5 : ¬ i = 5 := by omega
          simp only [go_sem, fN, ↓gI, ↓pI, seval, eT, iR, i1, i2, i4, i5]
  | a x y ix iy =>
    intro t env hv kn R
    have hvl := R.hl
    have knl := R.kl
    cases t with
    | b n =>
      rw [BT.cs]
      refine ⟨hv, kn, fun e hh => (by cases hh), hvl, knl, ?_⟩
      intro h k S hh hk hne hSh hSk
      have h4 : ¬ h = 4 := by omega
      have h5 : ¬ h = 5 := by omega
      have k4 : ¬ k = 4 := by omega
      have k5 : ¬ k = 5 := by omega
      refine acS_R_TypeCase (Nat.le_of_ble_eq_true rfl) fun hS C hC => ?_
      have s4 : S 4 = none := clean_none hS (by omega)
      have s5 : S 5 = none := clean_none hS (by omega)
      unfold ir_R_TypeCase
      repeat' (first | (with_reducible first | refine W ?_ | refine Wk (by decide) ?_) | ((with_reducible first | refine Wo (fun K hK => ?_) | refine Wp ?_ | refine Wq ?_ | refine Wr ?_); (try simp only [go_sem, fN, ↓gI, ↓pI, seval, eT, iR, s4, s5, h4, h5, k4, k5, hSh, hSk, dT, dF, nL]); (repeat with_reducible refine And.intro (by first | omega | exact lens | (simp [maxLen_eq] <;> omega)) ?_); (try (refine hK _ ?_; clear hK K)); (try with_reducible refine iC ?_)))
      refine csS_end (aBool false) hS hh hk hne trivial ?_ ?_ ?_ ?_ fun i hi i1 i2 => ?_
      · simp only [go_sem, fN, ↓gI, ↓pI, seval, eT, iR, resAll, resOne, tupV]
      · simp only [go_sem, fN, ↓gI, ↓pI, seval, eT, iR]
        try rfl
      · simp only [go_sem, fN, ↓gI, ↓pI, seval, eT, iR, h4, h5, hSh]
      · simp only [go_sem, fN, ↓gI, ↓pI, seval, eT, iR, k4, k5, hSk]
      · have i4 : ¬ i = 4 := by omega
        have i5 : ¬ i = 5 := by omega
        simp only [go_sem, fN, ↓gI, ↓pI, seval, eT, iR, i4, i5]
    | a u v =>
      obtain ⟨hv1, kn1, r1, l1, m1, c1⟩ := ix hp.1 u R
      cases hc : x.cs u env with
      | none =>
        rw [hc] at c1
        rw [BT.cs, hc]
        refine ⟨hv1, kn1, fun e hh => (by cases hh), l1, m1, ?_⟩
        intro h k S hh hk hne hSh hSk
        have hne2 : ¬ k = h := fun e => hne e.symm
        have h4 : ¬ h = 4 := by omega
        have h5 : ¬ h = 5 := by omega
        have k4 : ¬ k = 4 := by omega
        have k5 : ¬ k = 5 := by omega
        have q4 : ¬ 4 = h := by omega
        have q5 : ¬ 5 = h := by omega
        have p4 : ¬ 4 = k := by omega
        have p5 : ¬ 5 = k := by omega
        refine acS_R_TypeCase (Nat.le_of_ble_eq_true rfl) fun hS C hC => ?_
        have s4 : S 4 = none := clean_none hS (by omega)
        have s5 : S 5 = none := clean_none hS (by omega)
        unfold ir_R_TypeCase
        repeat' (first | (with_reducible first | refine W ?_ | refine Wk (by decide) ?_) | ((with_reducible first | refine Wo (fun K hK => ?_) | refine Wp ?_ | refine Wq ?_ | refine Wr ?_); (try simp only [go_sem, fN, ↓gI, ↓pI, seval, eT, iR, s4, s5, h4, h5, k4, k5, hSh, hSk, dT, dF, nL]); (repeat with_reducible refine And.intro (by first | omega | exact lens | (simp [maxLen_eq] <;> omega)) ?_); (try (refine hK _ ?_; clear hK K)); (try with_reducible refine iC ?_)))
        refine ⟨_, _, c1 (up1 h) (up1 k) _ (up1_le _) (up1_le _) (fun e => hne (Nat.add_right_cancel e)) (by rw [upS_up]; (simp only [go_sem, fN, ↓gI, ↓pI, seval, eT, iR, h4, h5, hSh]; try rfl)) (by rw [upS_up]; (simp only [go_sem, fN, ↓gI, ↓pI, seval, eT, iR, k4, k5, hSk]; try rfl)), ?_⟩
        repeat' (first | (with_reducible first | refine W ?_ | refine Wk (by decide) ?_) | ((with_reducible first | refine Wo (fun K hK => ?_) | refine Wp ?_ | refine Wq ?_ | refine Wr ?_); (try simp only [go_sem, fN, ↓gI, ↓pI, seval, eT, iR, csS, s4, s5, h4, h5, k4, k5, q4, q5, p4, p5, hne, hne2, Option.isSome_none, dT, dF, nL]); (repeat with_reducible refine And.intro (by first | omega | exact lens | (simp [maxLen_eq] <;> omega)) ?_); (try (refine hK _ ?_; clear hK K)); (try with_reducible refine iC ?_)))
        refine csS_end (aBool false) hS hh hk hne trivial ?_ ?_ ?_ ?_ fun i hi i1 i2 => ?_
        · simp only [go_sem, fN, ↓gI, ↓pI, seval, eT, iR, resAll, resOne, tupV]
        · simp only [go_sem, fN, ↓gI, ↓pI, seval, eT, iR]
          try rfl
        · simp only [go_sem, fN, ↓gI, ↓pI, seval, eT, iR, h4, h5, hne]
        · simp only [go_sem, fN, ↓gI, ↓pI, seval, eT, iR, k4, k5, hne2]
        · have i4 : ¬ i = 4 := by omega
          have i5 : ¬ i = 5 := by omega
          simp only [go_sem, fN, ↓gI, ↓pI, seval, eT, iR, i1, i2, i4, i5]
      | some e1 =>
        rw [hc] at c1
        obtain ⟨hv2, kn2, r2, l2, m2, c2⟩ := iy hp.2 v (r1 e1 hc)
        rw [BT.cs, hc]
        refine ⟨hv2, kn2, r2, l2, m2, ?_⟩
        intro h k S hh hk hne hSh hSk
        have hne2 : ¬ k = h := fun e => hne e.symm
        have h4 : ¬ h = 4 := by omega
        have h5 : ¬ h = 5 := by omega
        have k4 : ¬ k = 4 := by omega
        have k5 : ¬ k = 5 := by omega
        have q4 : ¬ 4 = h := by omega
        have q5 : ¬ 5 = h := by omega
        have p4 : ¬ 4 = k := by omega
        have p5 : ¬ 5 = k := by omega
        refine acS_R_TypeCase (Nat.le_of_ble_eq_true rfl) fun hS C hC => ?_
        have s4 : S 4 = none := clean_none hS (by omega)
        have s5 : S 5 = none := clean_none hS (by omega)
        unfold ir_R_TypeCase
        repeat' (first | (with_reducible first | refine W ?_ | refine Wk (by decide) ?_) | ((with_reducible first | refine Wo (fun K hK => ?_) | refine Wp ?_ | refine Wq ?_ | refine Wr ?_); (try simp only [go_sem, fN, ↓gI, ↓pI, seval, eT, iR, s4, s5, h4, h5, k4, k5, hSh, hSk, dT, dF, nL]); (repeat with_reducible refine And.intro (by first | omega | exact lens | (simp [maxLen_eq] <;> omega)) ?_); (try (refine hK _ ?_; clear hK K)); (try with_reducible refine iC ?_)))
        refine ⟨_, _, c1 (up1 h) (up1 k) _ (up1_le _) (up1_le _) (fun e => hne (Nat.add_right_cancel e)) (by rw [upS_up]; (simp only [go_sem, fN, ↓gI, ↓pI, seval, eT, iR, h4, h5, hSh]; try rfl)) (by rw [upS_up]; (simp only [go_sem, fN, ↓gI, ↓pI, seval, eT, iR, k4, k5, hSk]; try rfl)), ?_⟩
        repeat' (first | (with_reducible first | refine W ?_ | refine Wk (by decide) ?_) | ((with_reducible first | refine Wo (fun K hK => ?_) | refine Wp ?_ | refine Wq ?_ | refine Wr ?_); (try simp only [go_sem, fN, ↓gI, ↓pI, seval, eT, iR, csS, s4, s5, h4, h5, k4, k5, q4, q5, p4, p5, hne, hne2, Option.isSome_some, dT, dF, nL]); (repeat with_reducible refine And.intro (by first | omega | exact lens | (simp [maxLen_eq] <;> omega)) ?_); (try (refine hK _ ?_; clear hK K)); (try with_reducible refine iC ?_)))
        refine ⟨_, _, c2 (up1 h) (up1 k) _ (up1_le _) (up1_le _) (fun e => hne (Nat.add_right_cancel e)) (by rw [upS_up]; (simp only [go_sem, fN, ↓gI, ↓pI, seval, eT, iR, h4, h5, hne]; try rfl)) (by rw [upS_up]; (simp only [go_sem, fN, ↓gI, ↓pI, seval, eT, iR, k4, k5, hne2]; try rfl)), ?_⟩
        repeat' (first | (with_reducible first | refine W ?_ | refine Wk (by decide) ?_) | ((with_reducible first | refine Wo (fun K hK => ?_) | refine Wp ?_ | refine Wq ?_ | refine Wr ?_); (try simp only [go_sem, fN, ↓gI, ↓pI, seval, eT, iR, csS, s4, s5, h4, h5, k4, k5, q4, q5, p4, p5, hne, hne2, dT, dF, nL]); (repeat with_reducible refine And.intro (by first | omega | exact lens | (simp [maxLen_eq] <;> omega)) ?_); (try (refine hK _ ?_; clear hK K)); (try with_reducible refine iC ?_)))
        refine csS_end (aBool (y.cs v e1).isSome) hS hh hk hne trivial ?_ ?_ ?_ ?_ fun i hi i1 i2 => ?_
        · simp only [go_sem, fN, ↓gI, ↓pI, seval, eT, iR, resAll, resOne, tupV]
        · simp only [go_sem, fN, ↓gI, ↓pI, seval, eT, iR]
          try rfl
        · simp only [go_sem, fN, ↓gI, ↓pI, seval, eT, iR, h4, h5, hne]
        · simp only [go_sem, fN, ↓gI, ↓pI, seval, eT, iR, k4, k5, hne2]
        · have i4 : ¬ i = 4 := by omega
          have i5 : ¬ i = 5 := by omega
          simp only [go_sem, fN, ↓gI, ↓pI, seval, eT, iR, i1, i2, i4, i5]
theorem relE_start : RelE (fun _ => none) (List.replicate 2001 [.int .i64 0, .list []]) (List.replicate 2001 [.bool false]) := by
  refine ⟨List.length_replicate, List.length_replicate, fun x hx => ?_, fun i hi => ?_, fun i b hi hb => by cases hb⟩
  · rw [List.eq_of_mem_replicate hx]; rfl
  · rw [List.getElem?_replicate, if_pos hi]; rfl
theorem caseOfType_a (p t : BT) (hp : p.low 2001) : ACalls Tryz.prog 19 [aTy p.ty, aTy t.ty] (aBool (isCaseB p t)) := by
  obtain ⟨hv1, kn1, r1, l1, m1, c1⟩ := typeCase_S p hp t relE_start
  refine ac_R_CaseOfType (Nat.le_of_ble_eq_true rfl) fun C hC => ?_
  unfold ir_R_CaseOfType
  repeat' (first | (with_reducible first | refine W ?_ | refine Wk (by decide) ?_) | ((with_reducible first | refine Wo (fun K hK => ?_) | refine Wp ?_ | refine Wq ?_ | refine Wr ?_); (try simp only [go_sem, fN, ↓gI, ↓pI, seval, eT, iR, -List.reduceReplicate, dT, dF, nL]); (repeat with_reducible refine And.intro (by first | omega | exact lens | (simp [maxLen_eq] <;> omega)) ?_); (try (refine hK _ ?_; clear hK K)); (try with_reducible refine iC ?_)))
  refine ⟨_, _, c1 (up1 7) (up1 8) _ (up1_le _) (up1_le _) (by decide) (by rw [upS_up]; (simp only [go_sem, fN, ↓gI, ↓pI, seval, eT, iR, -List.reduceReplicate]; try rfl)) (by rw [upS_up]; (simp only [go_sem, fN, ↓gI, ↓pI, seval, eT, iR, -List.reduceReplicate]; try rfl)), ?_⟩
  repeat' (first | (with_reducible first | refine W ?_ | refine Wk (by decide) ?_) | ((with_reducible first | refine Wo (fun K hK => ?_) | refine Wp ?_ | refine Wq ?_ | refine Wr ?_); (try simp only [go_sem, fN, ↓gI, ↓pI, seval, eT, iR, -List.reduceReplicate, dT, dF, nL]); (repeat with_reducible refine And.intro (by first | omega | exact lens | (simp [maxLen_eq] <;> omega)) ?_); (try (refine hK _ ?_; clear hK K)); (try with_reducible refine iC ?_)))
  simp only [go_sem, fN, ↓gI, ↓pI, seval, FinQ, AS.result, resAll, resOne, tupV, -List.reduceReplicate]
  rfl
end Go.Proofs.YtehnjhkndbcmgaaGreatDoor

namespace Go.Proofs.YtehnjhkndbcmgaaGreatDoor
open Go Go.RowKit
set_option linter.unusedVariables false
set_option linter.unusedSimpArgs false
set_option maxHeartbeats 2000000
def PrinC (t : Lm) (b : BT) (e : Int) : Prop :=
  ACalls Tryz.prog 17 [aLm t] (.tup [aTy b.ty, aInt e]) ∧ (t.may 0 0 ≠ 0 → e = t.may 0 0) ∧ (t.may 0 0 = 0 → t.pure = false → e = 15) ∧ (t.may 0 0 = 0 → t.pure = true → (e = 0 ∨ e = 8 ∨ e = 11) ∧ ACalls Tryz.prog 16 [aLm t] (.tup [aTy b.ty, aInt e]))
theorem prin_no {t : Lm} (h : t.may 0 0 ≠ 0) : PrinC t (.b 0) (t.may 0 0) := by
  refine ⟨?_, fun _ => rfl, fun h0 => absurd h0 h, fun h0 => absurd h0 h⟩
  refine ac_infer_Principal (Nat.le_of_ble_eq_true rfl) fun C hC => ?_
  unfold ir_infer_Principal
  repeat' (first | (with_reducible first | refine W ?_ | refine Wk (by decide) ?_) | refine Cg _ (lCheck_a t 0) ?_ | ((with_reducible first | refine Wo (fun K hK => ?_) | refine Wp ?_ | refine Wq ?_ | refine Wr ?_); (try simp only [go_sem, fN, ↓gI, ↓pI, seval, eT, iR, h, dT, dF, nL]); (repeat with_reducible refine And.intro (by first | omega | exact lens | (simp [maxLen_eq] <;> omega)) ?_); (try (refine hK _ ?_; clear hK K)); (try with_reducible refine iC ?_)))
  simp only [go_sem, fN, ↓gI, ↓pI, seval, FinQ, AS.result, resAll, resOne, tupV, h]
  try rfl
theorem prin_open {t : Lm} (h : t.may 0 0 = 0) (hp : t.pure = false) : PrinC t (.b 0) 15 := by
  obtain ⟨_, _, h3, _⟩ := Lm.may_ok h
  refine ⟨?_, fun h0 => absurd h h0, fun _ _ => rfl, fun _ h1 => by rw [hp] at h1; cases h1⟩
  refine ac_infer_Principal (Nat.le_of_ble_eq_true rfl) fun C hC => ?_
  unfold ir_infer_Principal
  repeat' (first | (with_reducible first | refine W ?_ | refine Wk (by decide) ?_) | refine Cg _ (lCheck_a t 0) ?_ | refine Cg _ (pure_a t (by omega)) ?_ | ((with_reducible first | refine Wo (fun K hK => ?_) | refine Wp ?_ | refine Wq ?_ | refine Wr ?_); (try simp only [go_sem, fN, ↓gI, ↓pI, seval, eT, iR, h, hp, dT, dF, nL]); (repeat with_reducible refine And.intro (by first | omega | exact lens | (simp [maxLen_eq] <;> omega)) ?_); (try (refine hK _ ?_; clear hK K)); (try with_reducible refine iC ?_)))
  simp only [go_sem, fN, ↓gI, ↓pI, seval, FinQ, AS.result, resAll, resOne, tupV]
  try rfl
theorem BT.low_le {m n : Nat} (h : m ≤ n) : ∀ {x : BT}, x.low m → x.low n
  | .b k, hk => Nat.lt_of_lt_of_le hk h
  | .a x y, hk => ⟨BT.low_le h hk.1, BT.low_le h hk.2⟩
set_option maxHeartbeats 8000000 in
theorem prin_yes (x : UL) (hc : x.closed 0) (hz : x.sz ≤ 200) (hm0 : x.lm.may 0 0 = 0) (hp : x.lm.pure = true) : ∃ (b : BT) (e : Int), PrinC x.lm b e ∧ b.low 2001 ∧ b.sz ≤ 2000 ∧ (e ≠ 0 → b = .b 0) := by
  have hsz : x.lm.size ≤ 1000000 := by rw [UL.size_lm]; omega
  obtain ⟨t1, t2, t3, t4, t5, t6⟩ := ty_ok 402 x [] ([], 0) hc (by simp) (by omega) (by simp only; omega) ⟨by simp⟩
  have hP := fun {a0 r : Nat} {S : AStore} (h : Eqs 82 S a0 r ([], 0)) => of_S 402 (by decide) x (und := []) h hc (by simp) (by omega) (by simp only; omega) (by simp; omega) (by simp; omega) ⟨by simp⟩
  have hR := fun {a0 r : Nat} {S : AStore} (h : Eqs 66 S a0 r ([], 0)) => ofR_S 402 (by decide) x (und := []) h hc (by simp) (by omega) (by simp only; omega) (by simp; omega) (by simp; omega) ⟨by simp⟩
  simp only at t2 t3 t6
  generalize hm : x.ty [] ([], 0) = mm at *
  obtain ⟨all, eqs, n⟩ := mm
  simp only at t1 t2 t3 t4 t5 t6 hP hR
  have hg := good_eqs (K := 402) (by decide) t1 (by simp only; omega) (by simp only; simp at t6; omega)
  simp only at hg
  have hUl : (tNames n).length ≤ 20000 := by simp [tNames]; omega
  obtain ⟨q, r, hr⟩ := uends_all _ _ [] eqs hg rfl rfl
  have hsolve := solve_a (tNames n) hUl 100000000000 (by decide) q eqs r hr hg
  have hunify := unifyOf_a (tNames n) hUl 100000000000 (by decide) q eqs r hr hg
  have hall := t4.1
  have heqs : ∀ p ∈ eqs, TT p.1 ∧ TT p.2 := fun p hp => ⟨(t1.eqs p hp).1.1.1, (t1.eqs p hp).2.1.1⟩
  have hTs := uends_tt hr (fun b hb => by cases hb) heqs
  have her := uends_err_tt hr (fun b hb => by cases hb) heqs
  have e0 : (([] : List Pr).length = 0) := rfl
  suffices key : ∃ (b : BT) (e : Int), ACalls Tryz.prog 17 [aLm x.lm] (.tup [aTy b.ty, aInt e]) ∧ (e = 0 ∨ e = 8 ∨ e = 11) ∧ ACalls Tryz.prog 16 [aLm x.lm] (.tup [aTy b.ty, aInt e]) ∧ b.low 2001 ∧ b.sz ≤ 2000 ∧ (e ≠ 0 → b = .b 0) by
    obtain ⟨b, e, k1, k2, k3, k4, k5, k6⟩ := key
    exact ⟨b, e, ⟨k1, fun h => absurd hm0 h, fun _ h1 => (by rw [hp] at h1; cases h1), fun _ _ => ⟨k2, k3⟩⟩, k4, k5, k6⟩
  rcases her with h0 | h6 | h8
  · -- they are found
    obtain ⟨g', _, _⟩ := robin_unifies hr hg h0
    have hlen := g'.len
    have hon := onP_a r.1 (by omega) g'.ord all g'.var hall.chk
    have honR := onRef_a r.1 all (by omega)
    by_cases hfit : (all.on r.1).size ≤ 2000
    · have ho : onTo r.1 all = (all.on r.1, true) := if_pos hfit
      rw [ho] at hon honR
      have hy : TT (all.on r.1) := hall.on (fun b hb => (hTs b hb).1) fun b hb => (hTs b hb).2
      generalize all.on r.1 = y at *
      have hvl := vars_len y
      have hv : (y.bk []).2 = y.varsOf := bk_vars hy []
      have hb1 := bk_asB hy [] y.varsOf (by rw [hv]; exact ⟨[], by simp⟩)
      have hb2 := bk_in hy [] y.varsOf (by rw [hv]; exact ⟨[], by simp⟩)
      have hbk := fun {a0 : Nat} {S : AStore} (ha : 1000 ≤ a0) (hs : S a0 = some (mapI [])) => back_S hy (l := []) ha (by simp; omega) hs
      have hvo := varsOf_a y (by omega)
      have hat := asType_a hy y.varsOf hb2 (by omega)
      have low2 : (y.asB y.varsOf).low 2001 := BT.low_le (by omega) hb2
      refine ⟨y.asB y.varsOf, 0, ?_, .inl rfl, ?_, low2, by rw [asB_size hy]; exact hfit, fun h => absurd rfl h⟩
      · rw [← hb1]
        refine ac_infer_Principal (Nat.le_of_ble_eq_true rfl) fun C hC => ?_
        unfold ir_infer_Principal
        repeat' (first | (with_reducible first | refine W ?_ | refine Wk (by decide) ?_) | refine Cg _ (lCheck_a x.lm 0) ?_ | ((with_reducible first | refine Wo (fun K hK => ?_) | refine Wp ?_ | refine Wq ?_ | refine Wr ?_); (try simp only [go_sem, fN, ↓gI, ↓pI, seval, eT, iR, hm0, hp, dT, dF, nL]); (repeat with_reducible refine And.intro (by first | omega | exact lens | (simp [maxLen_eq] <;> omega)) ?_); (try (refine hK _ ?_; clear hK K)); (try with_reducible refine iC ?_)))
        refine ⟨_, pure_a x.lm hsz, ?_⟩
        iterate 7 (first | (with_reducible first | refine W ?_ | refine Wk (by decide) ?_) | ((with_reducible first | refine Wo (fun K hK => ?_) | refine Wp ?_ | refine Wq ?_ | refine Wr ?_); (try simp only [go_sem, fN, ↓gI, ↓pI, seval, eT, iR, hm0, hp, dT, dF, nL]); (repeat with_reducible refine And.intro (by first | omega | exact lens | (simp [maxLen_eq] <;> omega)) ?_); (try (refine hK _ ?_; clear hK K)); (try with_reducible refine iC ?_)))
        refine Wb ?_
        refine IWP.ghost (Ghost.ownCellA (id := 23) (r := 900) (e' := 114) 0 4 (by rfl) (by rfl) (by rfl) (by decide)) ?_
        repeat' (first | (with_reducible first | refine W ?_ | refine Wk (by decide) ?_) | ((with_reducible first | refine Wo (fun K hK => ?_) | refine Wp ?_ | refine Wq ?_ | refine Wr ?_); (try simp only [go_sem, fN, ↓gI, ↓pI, seval, eT, iR, dT, dF, nL]); (repeat with_reducible refine And.intro (by first | omega | exact lens | (simp [maxLen_eq] <;> omega)) ?_); (try (refine hK _ ?_; clear hK K)); (try with_reducible refine iC ?_)))
        refine ⟨_, _, acallsS_full (hP (a0 := up1 23) (r := up1 900) ⟨by decide, by decide, by decide, by rw [upS_up]; rfl, by rw [upS_up]; rfl⟩), ?_⟩
        repeat' (first | (with_reducible first | refine W ?_ | refine Wk (by decide) ?_) | refine Cg _ (hsolve) ?_ | refine Cg _ (hon) ?_ | ((with_reducible first | refine Wo (fun K hK => ?_) | refine Wp ?_ | refine Wq ?_ | refine Wr ?_); (try simp only [go_sem, fN, ↓gI, ↓pI, seval, eT, iR, eqS, h0, dT, dF, nL]); (repeat with_reducible refine And.intro (by first | omega | exact lens | (simp [maxLen_eq] <;> omega)) ?_); (try (refine hK _ ?_; clear hK K)); (try with_reducible refine iC ?_)))
        refine ⟨_, _, hbk (a0 := up1 50) (up1_le _) (by rw [upS_up]; rfl), ?_⟩
        repeat' (first | (with_reducible first | refine W ?_ | refine Wk (by decide) ?_) | ((with_reducible first | refine Wo (fun K hK => ?_) | refine Wp ?_ | refine Wq ?_ | refine Wr ?_); (try simp only [go_sem, fN, ↓gI, ↓pI, seval, eT, iR, eqS, h0, dT, dF, nL]); (repeat with_reducible refine And.intro (by first | omega | exact lens | (simp [maxLen_eq] <;> omega)) ?_); (try (refine hK _ ?_; clear hK K)); (try with_reducible refine iC ?_)))
        simp only [go_sem, fN, ↓gI, ↓pI, seval, FinQ, AS.result, resAll, resOne, tupV]
        try rfl
      · refine ac_R_PrincipalOf (Nat.le_of_ble_eq_true rfl) fun C hC => ?_
        unfold ir_R_PrincipalOf
        refine W ?_
        refine Wo (fun K hK => ?_)
        (try simp only [go_sem, fN, ↓gI, ↓pI, seval, eT, iR])
        (repeat with_reducible refine And.intro (by first | omega | exact lens | (simp [maxLen_eq] <;> omega)) ?_)
        refine hK _ ?_
        clear hK K
        refine W ?_
        refine W ?_
        refine Wo (fun K hK => ?_)
        (try simp only [go_sem, fN, ↓gI, ↓pI, seval, eT, iR])
        (repeat with_reducible refine And.intro (by first | omega | exact lens | (simp [maxLen_eq] <;> omega)) ?_)
        refine hK _ ?_
        clear hK K
        refine W ?_
        refine IWP.ghost (Ghost.ownCellA (id := 11) (r := 900) (e' := 114) 0 4 (by rfl) (by rfl) (by rfl) (by decide)) ?_
        repeat' (first | (with_reducible first | refine W ?_ | refine Wk (by decide) ?_) | ((with_reducible first | refine Wo (fun K hK => ?_) | refine Wp ?_ | refine Wq ?_ | refine Wr ?_); (try simp only [go_sem, fN, ↓gI, ↓pI, seval, eT, iR, dT, dF, nL]); (repeat with_reducible refine And.intro (by first | omega | exact lens | (simp [maxLen_eq] <;> omega)) ?_); (try (refine hK _ ?_; clear hK K)); (try with_reducible refine iC ?_)))
        refine ⟨_, _, acallsS_full (hR (a0 := up1 11) (r := up1 900) ⟨by decide, by decide, by decide, by rw [upS_up]; rfl, by rw [upS_up]; rfl⟩), ?_⟩
        repeat' (first | (with_reducible first | refine W ?_ | refine Wk (by decide) ?_) | refine Cg _ (hunify) ?_ | refine Cg _ (honR) ?_ | refine Cg _ (hvo) ?_ | refine Cg _ (hat) ?_ | ((with_reducible first | refine Wo (fun K hK => ?_) | refine Wp ?_ | refine Wq ?_ | refine Wr ?_); (try simp only [go_sem, fN, ↓gI, ↓pI, seval, eT, iR, eqS, h0, dT, dF, nL]); (repeat with_reducible refine And.intro (by first | omega | exact lens | (simp [maxLen_eq] <;> omega)) ?_); (try (refine hK _ ?_; clear hK K)); (try with_reducible refine iC ?_)))
        simp only [go_sem, fN, ↓gI, ↓pI, seval, FinQ, AS.result, resAll, resOne, tupV]
        try rfl
    · have ho : onTo r.1 all = (Tm.nil, false) := if_neg hfit
      rw [ho] at hon honR
      refine ⟨.b 0, 8, ?_, .inr (.inl rfl), ?_, by show 0 < 2001; omega, by show 1 ≤ 2000; omega, fun _ => rfl⟩
      · refine ac_infer_Principal (Nat.le_of_ble_eq_true rfl) fun C hC => ?_
        unfold ir_infer_Principal
        repeat' (first | (with_reducible first | refine W ?_ | refine Wk (by decide) ?_) | refine Cg _ (lCheck_a x.lm 0) ?_ | ((with_reducible first | refine Wo (fun K hK => ?_) | refine Wp ?_ | refine Wq ?_ | refine Wr ?_); (try simp only [go_sem, fN, ↓gI, ↓pI, seval, eT, iR, hm0, hp, dT, dF, nL]); (repeat with_reducible refine And.intro (by first | omega | exact lens | (simp [maxLen_eq] <;> omega)) ?_); (try (refine hK _ ?_; clear hK K)); (try with_reducible refine iC ?_)))
        refine ⟨_, pure_a x.lm hsz, ?_⟩
        iterate 7 (first | (with_reducible first | refine W ?_ | refine Wk (by decide) ?_) | ((with_reducible first | refine Wo (fun K hK => ?_) | refine Wp ?_ | refine Wq ?_ | refine Wr ?_); (try simp only [go_sem, fN, ↓gI, ↓pI, seval, eT, iR, hm0, hp, dT, dF, nL]); (repeat with_reducible refine And.intro (by first | omega | exact lens | (simp [maxLen_eq] <;> omega)) ?_); (try (refine hK _ ?_; clear hK K)); (try with_reducible refine iC ?_)))
        refine Wb ?_
        refine IWP.ghost (Ghost.ownCellA (id := 23) (r := 900) (e' := 114) 0 4 (by rfl) (by rfl) (by rfl) (by decide)) ?_
        repeat' (first | (with_reducible first | refine W ?_ | refine Wk (by decide) ?_) | ((with_reducible first | refine Wo (fun K hK => ?_) | refine Wp ?_ | refine Wq ?_ | refine Wr ?_); (try simp only [go_sem, fN, ↓gI, ↓pI, seval, eT, iR, dT, dF, nL]); (repeat with_reducible refine And.intro (by first | omega | exact lens | (simp [maxLen_eq] <;> omega)) ?_); (try (refine hK _ ?_; clear hK K)); (try with_reducible refine iC ?_)))
        refine ⟨_, _, acallsS_full (hP (a0 := up1 23) (r := up1 900) ⟨by decide, by decide, by decide, by rw [upS_up]; rfl, by rw [upS_up]; rfl⟩), ?_⟩
        repeat' (first | (with_reducible first | refine W ?_ | refine Wk (by decide) ?_) | refine Cg _ (hsolve) ?_ | refine Cg _ (hon) ?_ | ((with_reducible first | refine Wo (fun K hK => ?_) | refine Wp ?_ | refine Wq ?_ | refine Wr ?_); (try simp only [go_sem, fN, ↓gI, ↓pI, seval, eT, iR, eqS, h0, Tm.nil, dT, dF, nL]); (repeat with_reducible refine And.intro (by first | omega | exact lens | (simp [maxLen_eq] <;> omega)) ?_); (try (refine hK _ ?_; clear hK K)); (try with_reducible refine iC ?_)))
        simp only [go_sem, fN, ↓gI, ↓pI, seval, FinQ, AS.result, resAll, resOne, tupV]
        try rfl
      · refine ac_R_PrincipalOf (Nat.le_of_ble_eq_true rfl) fun C hC => ?_
        unfold ir_R_PrincipalOf
        refine W ?_
        refine Wo (fun K hK => ?_)
        (try simp only [go_sem, fN, ↓gI, ↓pI, seval, eT, iR])
        (repeat with_reducible refine And.intro (by first | omega | exact lens | (simp [maxLen_eq] <;> omega)) ?_)
        refine hK _ ?_
        clear hK K
        refine W ?_
        refine W ?_
        refine Wo (fun K hK => ?_)
        (try simp only [go_sem, fN, ↓gI, ↓pI, seval, eT, iR])
        (repeat with_reducible refine And.intro (by first | omega | exact lens | (simp [maxLen_eq] <;> omega)) ?_)
        refine hK _ ?_
        clear hK K
        refine W ?_
        refine IWP.ghost (Ghost.ownCellA (id := 11) (r := 900) (e' := 114) 0 4 (by rfl) (by rfl) (by rfl) (by decide)) ?_
        repeat' (first | (with_reducible first | refine W ?_ | refine Wk (by decide) ?_) | ((with_reducible first | refine Wo (fun K hK => ?_) | refine Wp ?_ | refine Wq ?_ | refine Wr ?_); (try simp only [go_sem, fN, ↓gI, ↓pI, seval, eT, iR, dT, dF, nL]); (repeat with_reducible refine And.intro (by first | omega | exact lens | (simp [maxLen_eq] <;> omega)) ?_); (try (refine hK _ ?_; clear hK K)); (try with_reducible refine iC ?_)))
        refine ⟨_, _, acallsS_full (hR (a0 := up1 11) (r := up1 900) ⟨by decide, by decide, by decide, by rw [upS_up]; rfl, by rw [upS_up]; rfl⟩), ?_⟩
        repeat' (first | (with_reducible first | refine W ?_ | refine Wk (by decide) ?_) | refine Cg _ (hunify) ?_ | refine Cg _ (honR) ?_ | ((with_reducible first | refine Wo (fun K hK => ?_) | refine Wp ?_ | refine Wq ?_ | refine Wr ?_); (try simp only [go_sem, fN, ↓gI, ↓pI, seval, eT, iR, eqS, h0, Tm.nil, dT, dF, nL]); (repeat with_reducible refine And.intro (by first | omega | exact lens | (simp [maxLen_eq] <;> omega)) ?_); (try (refine hK _ ?_; clear hK K)); (try with_reducible refine iC ?_)))
        simp only [go_sem, fN, ↓gI, ↓pI, seval, FinQ, AS.result, resAll, resOne, tupV]
        try rfl
  · refine ⟨.b 0, 11, ?_, .inr (.inr rfl), ?_, by show 0 < 2001; omega, by show 1 ≤ 2000; omega, fun _ => rfl⟩
    · refine ac_infer_Principal (Nat.le_of_ble_eq_true rfl) fun C hC => ?_
      unfold ir_infer_Principal
      repeat' (first | (with_reducible first | refine W ?_ | refine Wk (by decide) ?_) | refine Cg _ (lCheck_a x.lm 0) ?_ | ((with_reducible first | refine Wo (fun K hK => ?_) | refine Wp ?_ | refine Wq ?_ | refine Wr ?_); (try simp only [go_sem, fN, ↓gI, ↓pI, seval, eT, iR, hm0, hp, dT, dF, nL]); (repeat with_reducible refine And.intro (by first | omega | exact lens | (simp [maxLen_eq] <;> omega)) ?_); (try (refine hK _ ?_; clear hK K)); (try with_reducible refine iC ?_)))
      refine ⟨_, pure_a x.lm hsz, ?_⟩
      iterate 7 (first | (with_reducible first | refine W ?_ | refine Wk (by decide) ?_) | ((with_reducible first | refine Wo (fun K hK => ?_) | refine Wp ?_ | refine Wq ?_ | refine Wr ?_); (try simp only [go_sem, fN, ↓gI, ↓pI, seval, eT, iR, hm0, hp, dT, dF, nL]); (repeat with_reducible refine And.intro (by first | omega | exact lens | (simp [maxLen_eq] <;> omega)) ?_); (try (refine hK _ ?_; clear hK K)); (try with_reducible refine iC ?_)))
      refine Wb ?_
      refine IWP.ghost (Ghost.ownCellA (id := 23) (r := 900) (e' := 114) 0 4 (by rfl) (by rfl) (by rfl) (by decide)) ?_
      repeat' (first | (with_reducible first | refine W ?_ | refine Wk (by decide) ?_) | ((with_reducible first | refine Wo (fun K hK => ?_) | refine Wp ?_ | refine Wq ?_ | refine Wr ?_); (try simp only [go_sem, fN, ↓gI, ↓pI, seval, eT, iR, dT, dF, nL]); (repeat with_reducible refine And.intro (by first | omega | exact lens | (simp [maxLen_eq] <;> omega)) ?_); (try (refine hK _ ?_; clear hK K)); (try with_reducible refine iC ?_)))
      refine ⟨_, _, acallsS_full (hP (a0 := up1 23) (r := up1 900) ⟨by decide, by decide, by decide, by rw [upS_up]; rfl, by rw [upS_up]; rfl⟩), ?_⟩
      repeat' (first | (with_reducible first | refine W ?_ | refine Wk (by decide) ?_) | refine Cg _ (hsolve) ?_ | ((with_reducible first | refine Wo (fun K hK => ?_) | refine Wp ?_ | refine Wq ?_ | refine Wr ?_); (try simp only [go_sem, fN, ↓gI, ↓pI, seval, eT, iR, eqS, h6, dT, dF, nL]); (repeat with_reducible refine And.intro (by first | omega | exact lens | (simp [maxLen_eq] <;> omega)) ?_); (try (refine hK _ ?_; clear hK K)); (try with_reducible refine iC ?_)))
      simp only [go_sem, fN, ↓gI, ↓pI, seval, FinQ, AS.result, resAll, resOne, tupV]
      try rfl
    · refine ac_R_PrincipalOf (Nat.le_of_ble_eq_true rfl) fun C hC => ?_
      unfold ir_R_PrincipalOf
      refine W ?_
      refine Wo (fun K hK => ?_)
      (try simp only [go_sem, fN, ↓gI, ↓pI, seval, eT, iR])
      (repeat with_reducible refine And.intro (by first | omega | exact lens | (simp [maxLen_eq] <;> omega)) ?_)
      refine hK _ ?_
      clear hK K
      refine W ?_
      refine W ?_
      refine Wo (fun K hK => ?_)
      (try simp only [go_sem, fN, ↓gI, ↓pI, seval, eT, iR])
      (repeat with_reducible refine And.intro (by first | omega | exact lens | (simp [maxLen_eq] <;> omega)) ?_)
      refine hK _ ?_
      clear hK K
      refine W ?_
      refine IWP.ghost (Ghost.ownCellA (id := 11) (r := 900) (e' := 114) 0 4 (by rfl) (by rfl) (by rfl) (by decide)) ?_
      repeat' (first | (with_reducible first | refine W ?_ | refine Wk (by decide) ?_) | ((with_reducible first | refine Wo (fun K hK => ?_) | refine Wp ?_ | refine Wq ?_ | refine Wr ?_); (try simp only [go_sem, fN, ↓gI, ↓pI, seval, eT, iR, dT, dF, nL]); (repeat with_reducible refine And.intro (by first | omega | exact lens | (simp [maxLen_eq] <;> omega)) ?_); (try (refine hK _ ?_; clear hK K)); (try with_reducible refine iC ?_)))
      refine ⟨_, _, acallsS_full (hR (a0 := up1 11) (r := up1 900) ⟨by decide, by decide, by decide, by rw [upS_up]; rfl, by rw [upS_up]; rfl⟩), ?_⟩
      repeat' (first | (with_reducible first | refine W ?_ | refine Wk (by decide) ?_) | refine Cg _ (hunify) ?_ | ((with_reducible first | refine Wo (fun K hK => ?_) | refine Wp ?_ | refine Wq ?_ | refine Wr ?_); (try simp only [go_sem, fN, ↓gI, ↓pI, seval, eT, iR, eqS, h6, dT, dF, nL]); (repeat with_reducible refine And.intro (by first | omega | exact lens | (simp [maxLen_eq] <;> omega)) ?_); (try (refine hK _ ?_; clear hK K)); (try with_reducible refine iC ?_)))
      simp only [go_sem, fN, ↓gI, ↓pI, seval, FinQ, AS.result, resAll, resOne, tupV]
      try rfl
  · refine ⟨.b 0, 8, ?_, .inr (.inl rfl), ?_, by show 0 < 2001; omega, by show 1 ≤ 2000; omega, fun _ => rfl⟩
    · refine ac_infer_Principal (Nat.le_of_ble_eq_true rfl) fun C hC => ?_
      unfold ir_infer_Principal
      repeat' (first | (with_reducible first | refine W ?_ | refine Wk (by decide) ?_) | refine Cg _ (lCheck_a x.lm 0) ?_ | ((with_reducible first | refine Wo (fun K hK => ?_) | refine Wp ?_ | refine Wq ?_ | refine Wr ?_); (try simp only [go_sem, fN, ↓gI, ↓pI, seval, eT, iR, hm0, hp, dT, dF, nL]); (repeat with_reducible refine And.intro (by first | omega | exact lens | (simp [maxLen_eq] <;> omega)) ?_); (try (refine hK _ ?_; clear hK K)); (try with_reducible refine iC ?_)))
      refine ⟨_, pure_a x.lm hsz, ?_⟩
      iterate 7 (first | (with_reducible first | refine W ?_ | refine Wk (by decide) ?_) | ((with_reducible first | refine Wo (fun K hK => ?_) | refine Wp ?_ | refine Wq ?_ | refine Wr ?_); (try simp only [go_sem, fN, ↓gI, ↓pI, seval, eT, iR, hm0, hp, dT, dF, nL]); (repeat with_reducible refine And.intro (by first | omega | exact lens | (simp [maxLen_eq] <;> omega)) ?_); (try (refine hK _ ?_; clear hK K)); (try with_reducible refine iC ?_)))
      refine Wb ?_
      refine IWP.ghost (Ghost.ownCellA (id := 23) (r := 900) (e' := 114) 0 4 (by rfl) (by rfl) (by rfl) (by decide)) ?_
      repeat' (first | (with_reducible first | refine W ?_ | refine Wk (by decide) ?_) | ((with_reducible first | refine Wo (fun K hK => ?_) | refine Wp ?_ | refine Wq ?_ | refine Wr ?_); (try simp only [go_sem, fN, ↓gI, ↓pI, seval, eT, iR, dT, dF, nL]); (repeat with_reducible refine And.intro (by first | omega | exact lens | (simp [maxLen_eq] <;> omega)) ?_); (try (refine hK _ ?_; clear hK K)); (try with_reducible refine iC ?_)))
      refine ⟨_, _, acallsS_full (hP (a0 := up1 23) (r := up1 900) ⟨by decide, by decide, by decide, by rw [upS_up]; rfl, by rw [upS_up]; rfl⟩), ?_⟩
      repeat' (first | (with_reducible first | refine W ?_ | refine Wk (by decide) ?_) | refine Cg _ (hsolve) ?_ | ((with_reducible first | refine Wo (fun K hK => ?_) | refine Wp ?_ | refine Wq ?_ | refine Wr ?_); (try simp only [go_sem, fN, ↓gI, ↓pI, seval, eT, iR, eqS, h8, dT, dF, nL]); (repeat with_reducible refine And.intro (by first | omega | exact lens | (simp [maxLen_eq] <;> omega)) ?_); (try (refine hK _ ?_; clear hK K)); (try with_reducible refine iC ?_)))
      simp only [go_sem, fN, ↓gI, ↓pI, seval, FinQ, AS.result, resAll, resOne, tupV]
      try rfl
    · refine ac_R_PrincipalOf (Nat.le_of_ble_eq_true rfl) fun C hC => ?_
      unfold ir_R_PrincipalOf
      refine W ?_
      refine Wo (fun K hK => ?_)
      (try simp only [go_sem, fN, ↓gI, ↓pI, seval, eT, iR])
      (repeat with_reducible refine And.intro (by first | omega | exact lens | (simp [maxLen_eq] <;> omega)) ?_)
      refine hK _ ?_
      clear hK K
      refine W ?_
      refine W ?_
      refine Wo (fun K hK => ?_)
      (try simp only [go_sem, fN, ↓gI, ↓pI, seval, eT, iR])
      (repeat with_reducible refine And.intro (by first | omega | exact lens | (simp [maxLen_eq] <;> omega)) ?_)
      refine hK _ ?_
      clear hK K
      refine W ?_
      refine IWP.ghost (Ghost.ownCellA (id := 11) (r := 900) (e' := 114) 0 4 (by rfl) (by rfl) (by rfl) (by decide)) ?_
      repeat' (first | (with_reducible first | refine W ?_ | refine Wk (by decide) ?_) | ((with_reducible first | refine Wo (fun K hK => ?_) | refine Wp ?_ | refine Wq ?_ | refine Wr ?_); (try simp only [go_sem, fN, ↓gI, ↓pI, seval, eT, iR, dT, dF, nL]); (repeat with_reducible refine And.intro (by first | omega | exact lens | (simp [maxLen_eq] <;> omega)) ?_); (try (refine hK _ ?_; clear hK K)); (try with_reducible refine iC ?_)))
      refine ⟨_, _, acallsS_full (hR (a0 := up1 11) (r := up1 900) ⟨by decide, by decide, by decide, by rw [upS_up]; rfl, by rw [upS_up]; rfl⟩), ?_⟩
      repeat' (first | (with_reducible first | refine W ?_ | refine Wk (by decide) ?_) | refine Cg _ (hunify) ?_ | ((with_reducible first | refine Wo (fun K hK => ?_) | refine Wp ?_ | refine Wq ?_ | refine Wr ?_); (try simp only [go_sem, fN, ↓gI, ↓pI, seval, eT, iR, eqS, h8, dT, dF, nL]); (repeat with_reducible refine And.intro (by first | omega | exact lens | (simp [maxLen_eq] <;> omega)) ?_); (try (refine hK _ ?_; clear hK K)); (try with_reducible refine iC ?_)))
      simp only [go_sem, fN, ↓gI, ↓pI, seval, FinQ, AS.result, resAll, resOne, tupV]
      try rfl
end Go.Proofs.YtehnjhkndbcmgaaGreatDoor

namespace Go.Proofs.YtehnjhkndbcmgaaGreatDoor
open Go Go.RowKit
set_option linter.unusedVariables false
set_option linter.unusedSimpArgs false
set_option maxHeartbeats 2000000
theorem prin_all (t : Lm) : ∃ (b : BT) (e : Int), PrinC t b e ∧ b.low 2001 ∧ b.sz ≤ 2000 ∧ (e ≠ 0 → b = .b 0) := by
  by_cases h : t.may 0 0 = 0
  · obtain ⟨_, _, h3, h4⟩ := Lm.may_ok h
    cases hp : t.pure with
    | false => exact ⟨.b 0, 15, prin_open h hp, by show 0 < 2001; omega, by show 1 ≤ 2000; omega, fun _ => rfl⟩
    | true =>
      obtain ⟨x, rfl, hc⟩ := ul_of (u := 0) h4 hp
      exact prin_yes x hc (by rw [← UL.size_lm]; exact h3) h hp
  · exact ⟨.b 0, _, prin_no h, by show 0 < 2001; omega, by show 1 ≤ 2000; omega, fun _ => rfl⟩
def hasV (m : Int) (y b : BT) (e : Int) : Bool × Int := if m ≠ 0 then (false, m) else if e = 11 then (false, 0) else if e ≠ 0 then (false, e) else (isCaseB b y, 0)
theorem has_no {t : Lm} {ty : Ty} (h : ty.may ≠ 0) : ACalls Tryz.prog 20 [aLm t, aTy ty] (.tup [aBool false, aInt ty.may]) := by
  refine ac_infer_Has (Nat.le_of_ble_eq_true rfl) fun C hC => ?_
  unfold ir_infer_Has
  repeat' (first | (with_reducible first | refine W ?_ | refine Wk (by decide) ?_) | refine Cg _ (yCheck_a ty) ?_ | ((with_reducible first | refine Wo (fun K hK => ?_) | refine Wp ?_ | refine Wq ?_ | refine Wr ?_); (try simp only [go_sem, fN, ↓gI, ↓pI, seval, eT, iR, h, dT, dF, nL]); (repeat with_reducible refine And.intro (by first | omega | exact lens | (simp [maxLen_eq] <;> omega)) ?_); (try (refine hK _ ?_; clear hK K)); (try with_reducible refine iC ?_)))
  simp only [go_sem, fN, ↓gI, ↓pI, seval, FinQ, AS.result, resAll, resOne, tupV, h]
theorem has_yes {t : Lm} {y b : BT} {e : Int} (hP : PrinC t b e) (h1 : b.low 2001) (h2 : b.sz ≤ 2000) (hy : y.ty.may = 0) (h3 : y.low 1000) (h4 : y.sz ≤ 200) : ACalls Tryz.prog 20 [aLm t, aTy y.ty] (.tup [aBool (hasV 0 y b e).1, aInt (hasV 0 y b e).2]) := by
  have hpr := hP.1
  unfold hasV
  refine ac_infer_Has (Nat.le_of_ble_eq_true rfl) fun C hC => ?_
  unfold ir_infer_Has
  by_cases he : e = 11
  · repeat' (first | (with_reducible first | refine W ?_ | refine Wk (by decide) ?_) | refine Cg _ (yCheck_a y.ty) ?_ | refine Cg _ (hpr) ?_ | ((with_reducible first | refine Wo (fun K hK => ?_) | refine Wp ?_ | refine Wq ?_ | refine Wr ?_); (try simp only [go_sem, fN, ↓gI, ↓pI, seval, eT, iR, hy, he, dT, dF, nL]); (repeat with_reducible refine And.intro (by first | omega | exact lens | (simp [maxLen_eq] <;> omega)) ?_); (try (refine hK _ ?_; clear hK K)); (try with_reducible refine iC ?_)))
    simp only [go_sem, fN, ↓gI, ↓pI, seval, FinQ, AS.result, resAll, resOne, tupV, he]
    try simp
  by_cases h0 : e = 0
  · have hc := case_a (b.tm 80) (y.tm 81) (by rw [BT.tm_size]; omega) (by rw [BT.tm_size]; omega)
    rw [isCase_bt] at hc
    subst h0
    repeat' (first | (with_reducible first | refine W ?_ | refine Wk (by decide) ?_) | refine Cg _ (yCheck_a y.ty) ?_ | refine Cg _ (hpr) ?_ | refine Cg _ (as_a 80 b (BT.low_le (by decide) h1)) ?_ | refine Cg _ (as_a 81 y (BT.low_le (by decide) h3)) ?_ | refine Cg _ (hc) ?_ | ((with_reducible first | refine Wo (fun K hK => ?_) | refine Wp ?_ | refine Wq ?_ | refine Wr ?_); (try simp only [go_sem, fN, ↓gI, ↓pI, seval, eT, iR, hy, dT, dF, nL]); (repeat with_reducible refine And.intro (by first | omega | exact lens | (simp [maxLen_eq] <;> omega)) ?_); (try (refine hK _ ?_; clear hK K)); (try with_reducible refine iC ?_)))
    simp only [go_sem, fN, ↓gI, ↓pI, seval, FinQ, AS.result, resAll, resOne, tupV]
    try simp
  · repeat' (first | (with_reducible first | refine W ?_ | refine Wk (by decide) ?_) | refine Cg _ (yCheck_a y.ty) ?_ | refine Cg _ (hpr) ?_ | ((with_reducible first | refine Wo (fun K hK => ?_) | refine Wp ?_ | refine Wq ?_ | refine Wr ?_); (try simp only [go_sem, fN, ↓gI, ↓pI, seval, eT, iR, hy, he, h0, dT, dF, nL]); (repeat with_reducible refine And.intro (by first | omega | exact lens | (simp [maxLen_eq] <;> omega)) ?_); (try (refine hK _ ?_; clear hK K)); (try with_reducible refine iC ?_)))
    simp only [go_sem, fN, ↓gI, ↓pI, seval, FinQ, AS.result, resAll, resOne, tupV, he, h0]
    try simp [he, h0]
theorem BT.chk_ty : ∀ {x : BT}, x.low 1000 → x.ty.chk = 0
  | .b n, h => by
    have h : n < 1000 := h
    rw [BT.ty, Ty.chk, if_pos (.inl rfl), if_pos (by omega)]
    rfl
  | .a x y, h => by
    rw [BT.ty, Ty.chk, if_pos (.inr ⟨rfl, rfl⟩), if_pos (by omega)]
    simp only [Ty.chks, BT.chk_ty h.1, BT.chk_ty h.2, if_true]
theorem ty_cases (ty : Ty) : ty.may ≠ 0 ∨ ∃ y : BT, ty = y.ty ∧ y.low 1000 ∧ y.sz ≤ 200 := by
  by_cases h : ty.may = 0
  · right
    unfold Ty.may at h
    split at h
    · cases h
    · obtain ⟨y, rfl, hl⟩ := bt_of h
      exact ⟨y, rfl, hl, by rw [← BT.size_ty]; omega⟩
  · exact .inl h
set_option maxHeartbeats 16000000 in
theorem inferSays_a (t : Lm) (ty : Ty) : ACalls Tryz.prog 3 [aLm t, aTy ty] (aBool true) := by
  by_cases hz1 : 3000 < t.size
  · refine ac_L_InferSays (Nat.le_of_ble_eq_true rfl) fun C hC => ?_
    unfold ir_L_InferSays
    repeat' (first | (with_reducible first | refine W ?_ | refine Wk (by decide) ?_) | refine Cg _ (hugeLam_a t) ?_ | ((with_reducible first | refine Wo (fun K hK => ?_) | refine Wp ?_ | refine Wq ?_ | refine Wr ?_); (try simp only [go_sem, fN, ↓gI, ↓pI, seval, eT, iR, hz1, dT, dF, nL]); (repeat with_reducible refine And.intro (by first | omega | exact lens | (simp [maxLen_eq] <;> omega)) ?_); (try (refine hK _ ?_; clear hK K)); (try with_reducible refine iC ?_)))
    simp only [go_sem, fN, ↓gI, ↓pI, seval, FinQ, AS.result, resAll, resOne, tupV]
  by_cases hz2 : 3000 < ty.size
  · refine ac_L_InferSays (Nat.le_of_ble_eq_true rfl) fun C hC => ?_
    unfold ir_L_InferSays
    repeat' (first | (with_reducible first | refine W ?_ | refine Wk (by decide) ?_) | refine Cg _ (hugeLam_a t) ?_ | refine Cg _ (hugeType_a ty) ?_ | ((with_reducible first | refine Wo (fun K hK => ?_) | refine Wp ?_ | refine Wq ?_ | refine Wr ?_); (try simp only [go_sem, fN, ↓gI, ↓pI, seval, eT, iR, hz1, hz2, dT, dF, nL]); (repeat with_reducible refine And.intro (by first | omega | exact lens | (simp [maxLen_eq] <;> omega)) ?_); (try (refine hK _ ?_; clear hK K)); (try with_reducible refine iC ?_)))
    simp only [go_sem, fN, ↓gI, ↓pI, seval, FinQ, AS.result, resAll, resOne, tupV]
  obtain ⟨b, e, hP, hb1, hb2, hb3⟩ := prin_all t
  have hpr := hP.1
  obtain ⟨_, hA, hB, hD⟩ := hP
  have hsame := sameTy_a b b
  rw [decide_eq_true rfl] at hsame
  rcases ty_cases ty with hy | ⟨y, rfl, hy1, hy2⟩
  · -- the type may not be
    have htx := yText_a ty (.b 0) (fun h => absurd h hy)
    have hhas := has_no (t := t) hy
    by_cases hm : t.may 0 0 = 0
    · have hz : t.size ≤ 1000000 := by omega
      cases hp : t.pure with
      | false =>
        have he := hB hm hp
        subst he
        have hb := hb3 (by decide)
        subst hb
        refine ac_L_InferSays (Nat.le_of_ble_eq_true rfl) fun C hC => ?_
        unfold ir_L_InferSays
        repeat' (first | (with_reducible first | refine W ?_ | refine Wk (by decide) ?_) | refine Cg _ (hugeLam_a t) ?_ | refine Cg _ (hugeType_a ty) ?_ | refine Cg _ (yMayR_a ty) ?_ | refine Cg _ (htx) ?_ | refine Cg _ (yCheck_a ty) ?_ | refine Cg _ (lMay_a t 0 0) ?_ | refine Cg _ (hasConst_a t hz) ?_ | refine Cg _ (hpr) ?_ | refine Cg _ (hhas) ?_ | ((with_reducible first | refine Wo (fun K hK => ?_) | refine Wp ?_ | refine Wq ?_ | refine Wr ?_); (try simp only [go_sem, fN, ↓gI, ↓pI, seval, eT, iR, hz1, hz2, hy, hm, hp, dT, dF, nL]); (repeat with_reducible refine And.intro (by first | omega | exact lens | (simp [maxLen_eq] <;> omega)) ?_); (try (refine hK _ ?_; clear hK K)); (try with_reducible refine iC ?_)))
        simp only [go_sem, fN, ↓gI, ↓pI, seval, FinQ, AS.result, resAll, resOne, tupV]
        try simp
      | true =>
        by_cases h60 : (60 : Int) < capTo t.size 60
        · refine ac_L_InferSays (Nat.le_of_ble_eq_true rfl) fun C hC => ?_
          unfold ir_L_InferSays
          repeat' (first | (with_reducible first | refine W ?_ | refine Wk (by decide) ?_) | refine Cg _ (hugeLam_a t) ?_ | refine Cg _ (hugeType_a ty) ?_ | refine Cg _ (yMayR_a ty) ?_ | refine Cg _ (htx) ?_ | refine Cg _ (yCheck_a ty) ?_ | refine Cg _ (lMay_a t 0 0) ?_ | refine Cg _ (hasConst_a t hz) ?_ | refine Cg _ (lsizeR_a t 60 (by decide) (by decide)) ?_ | ((with_reducible first | refine Wo (fun K hK => ?_) | refine Wp ?_ | refine Wq ?_ | refine Wr ?_); (try simp only [go_sem, fN, ↓gI, ↓pI, seval, eT, iR, hz1, hz2, hy, hm, hp, h60, dT, dF, nL]); (repeat with_reducible refine And.intro (by first | omega | exact lens | (simp [maxLen_eq] <;> omega)) ?_); (try (refine hK _ ?_; clear hK K)); (try with_reducible refine iC ?_)))
          simp only [go_sem, fN, ↓gI, ↓pI, seval, FinQ, AS.result, resAll, resOne, tupV]
        · obtain ⟨he, hR⟩ := hD hm hp
          rcases he with rfl | rfl | rfl
          · refine ac_L_InferSays (Nat.le_of_ble_eq_true rfl) fun C hC => ?_
            unfold ir_L_InferSays
            repeat' (first | (with_reducible first | refine W ?_ | refine Wk (by decide) ?_) | refine Cg _ (hugeLam_a t) ?_ | refine Cg _ (hugeType_a ty) ?_ | refine Cg _ (yMayR_a ty) ?_ | refine Cg _ (htx) ?_ | refine Cg _ (yCheck_a ty) ?_ | refine Cg _ (lMay_a t 0 0) ?_ | refine Cg _ (hasConst_a t hz) ?_ | refine Cg _ (lsizeR_a t 60 (by decide) (by decide)) ?_ | refine Cg _ (hR) ?_ | refine Cg _ (hpr) ?_ | refine Cg _ (hsame) ?_ | refine Cg _ (hhas) ?_ | ((with_reducible first | refine Wo (fun K hK => ?_) | refine Wp ?_ | refine Wq ?_ | refine Wr ?_); (try simp only [go_sem, fN, ↓gI, ↓pI, seval, eT, iR, hz1, hz2, hy, hm, hp, h60, dT, dF, nL]); (repeat with_reducible refine And.intro (by first | omega | exact lens | (simp [maxLen_eq] <;> omega)) ?_); (try (refine hK _ ?_; clear hK K)); (try with_reducible refine iC ?_)))
            simp only [go_sem, fN, ↓gI, ↓pI, seval, FinQ, AS.result, resAll, resOne, tupV]
            try simp
          all_goals
            have hb := hb3 (by decide)
            subst hb
            refine ac_L_InferSays (Nat.le_of_ble_eq_true rfl) fun C hC => ?_
            unfold ir_L_InferSays
            repeat' (first | (with_reducible first | refine W ?_ | refine Wk (by decide) ?_) | refine Cg _ (hugeLam_a t) ?_ | refine Cg _ (hugeType_a ty) ?_ | refine Cg _ (yMayR_a ty) ?_ | refine Cg _ (htx) ?_ | refine Cg _ (yCheck_a ty) ?_ | refine Cg _ (lMay_a t 0 0) ?_ | refine Cg _ (hasConst_a t hz) ?_ | refine Cg _ (lsizeR_a t 60 (by decide) (by decide)) ?_ | refine Cg _ (hR) ?_ | refine Cg _ (hpr) ?_ | refine Cg _ (hhas) ?_ | ((with_reducible first | refine Wo (fun K hK => ?_) | refine Wp ?_ | refine Wq ?_ | refine Wr ?_); (try simp only [go_sem, fN, ↓gI, ↓pI, seval, eT, iR, hz1, hz2, hy, hm, hp, h60, dT, dF, nL]); (repeat with_reducible refine And.intro (by first | omega | exact lens | (simp [maxLen_eq] <;> omega)) ?_); (try (refine hK _ ?_; clear hK K)); (try with_reducible refine iC ?_)))
            simp only [go_sem, fN, ↓gI, ↓pI, seval, FinQ, AS.result, resAll, resOne, tupV]
            try simp
    · have he := hA hm
      have hb := hb3 (by rw [he]; exact hm)
      subst hb
      rw [he] at hpr
      refine ac_L_InferSays (Nat.le_of_ble_eq_true rfl) fun C hC => ?_
      unfold ir_L_InferSays
      repeat' (first | (with_reducible first | refine W ?_ | refine Wk (by decide) ?_) | refine Cg _ (hugeLam_a t) ?_ | refine Cg _ (hugeType_a ty) ?_ | refine Cg _ (yMayR_a ty) ?_ | refine Cg _ (htx) ?_ | refine Cg _ (yCheck_a ty) ?_ | refine Cg _ (lMay_a t 0 0) ?_ | refine Cg _ (hpr) ?_ | refine Cg _ (hhas) ?_ | ((with_reducible first | refine Wo (fun K hK => ?_) | refine Wp ?_ | refine Wq ?_ | refine Wr ?_); (try simp only [go_sem, fN, ↓gI, ↓pI, seval, eT, iR, hz1, hz2, hy, hm, dT, dF, nL]); (repeat with_reducible refine And.intro (by first | omega | exact lens | (simp [maxLen_eq] <;> omega)) ?_); (try (refine hK _ ?_; clear hK K)); (try with_reducible refine iC ?_)))
      simp only [go_sem, fN, ↓gI, ↓pI, seval, FinQ, AS.result, resAll, resOne, tupV]
      try simp
  · -- a type
    by_cases hy : y.ty.may = 0
    case neg =>
      exact absurd (by
        unfold Ty.may
        rw [BT.size_ty, if_neg (by omega)]
        exact BT.chk_ty hy1) hy
    have hl6 := BT.low_le (m := 1000) (n := 1000000) (by decide) hy1
    have htx := yText_a y.ty y (fun _ => ⟨rfl, hl6, by omega⟩)
    have hrt := typeText_a y hl6 (by omega)
    have hhas := fun h => has_yes (y := y) (t := t) (b := b) (e := e) h hb1 hb2 hy hy1 hy2
    have hcas := caseOfType_a b y hb1
    by_cases hm : t.may 0 0 = 0
    · have hz : t.size ≤ 1000000 := by omega
      cases hp : t.pure with
      | false =>
        have hhas := hhas ⟨hpr, hA, hB, hD⟩
        have he := hB hm hp
        subst he
        have hb := hb3 (by decide)
        subst hb
        have hv : hasV 0 y (.b 0) 15 = (false, 15) := rfl
        rw [hv] at hhas
        refine ac_L_InferSays (Nat.le_of_ble_eq_true rfl) fun C hC => ?_
        unfold ir_L_InferSays
        repeat' (first | (with_reducible first | refine W ?_ | refine Wk (by decide) ?_) | refine Cg _ (hugeLam_a t) ?_ | refine Cg _ (hugeType_a y.ty) ?_ | refine Cg _ (yMayR_a y.ty) ?_ | refine Cg _ (hrt) ?_ | refine Cg _ (htx) ?_ | refine Cg _ (yCheck_a y.ty) ?_ | refine Cg _ (lMay_a t 0 0) ?_ | refine Cg _ (hasConst_a t hz) ?_ | refine Cg _ (hpr) ?_ | refine Cg _ (hhas) ?_ | ((with_reducible first | refine Wo (fun K hK => ?_) | refine Wp ?_ | refine Wq ?_ | refine Wr ?_); (try simp only [go_sem, fN, ↓gI, ↓pI, seval, eT, iR, hz1, hz2, hy, hm, hp, dT, dF, nL]); (repeat with_reducible refine And.intro (by first | omega | exact lens | (simp [maxLen_eq] <;> omega)) ?_); (try (refine hK _ ?_; clear hK K)); (try with_reducible refine iC ?_)))
        simp only [go_sem, fN, ↓gI, ↓pI, seval, FinQ, AS.result, resAll, resOne, tupV]
        try simp
      | true =>
        by_cases h60 : (60 : Int) < capTo t.size 60
        · refine ac_L_InferSays (Nat.le_of_ble_eq_true rfl) fun C hC => ?_
          unfold ir_L_InferSays
          repeat' (first | (with_reducible first | refine W ?_ | refine Wk (by decide) ?_) | refine Cg _ (hugeLam_a t) ?_ | refine Cg _ (hugeType_a y.ty) ?_ | refine Cg _ (yMayR_a y.ty) ?_ | refine Cg _ (hrt) ?_ | refine Cg _ (htx) ?_ | refine Cg _ (yCheck_a y.ty) ?_ | refine Cg _ (lMay_a t 0 0) ?_ | refine Cg _ (hasConst_a t hz) ?_ | refine Cg _ (lsizeR_a t 60 (by decide) (by decide)) ?_ | ((with_reducible first | refine Wo (fun K hK => ?_) | refine Wp ?_ | refine Wq ?_ | refine Wr ?_); (try simp only [go_sem, fN, ↓gI, ↓pI, seval, eT, iR, hz1, hz2, hy, hm, hp, h60, dT, dF, nL]); (repeat with_reducible refine And.intro (by first | omega | exact lens | (simp [maxLen_eq] <;> omega)) ?_); (try (refine hK _ ?_; clear hK K)); (try with_reducible refine iC ?_)))
          simp only [go_sem, fN, ↓gI, ↓pI, seval, FinQ, AS.result, resAll, resOne, tupV]
        · obtain ⟨he, hR⟩ := hD hm hp
          have hhas := hhas ⟨hpr, hA, hB, hD⟩
          rcases he with rfl | rfl | rfl
          · have hv : hasV 0 y b 0 = (isCaseB b y, 0) := rfl
            rw [hv] at hhas
            refine ac_L_InferSays (Nat.le_of_ble_eq_true rfl) fun C hC => ?_
            unfold ir_L_InferSays
            repeat' (first | (with_reducible first | refine W ?_ | refine Wk (by decide) ?_) | refine Cg _ (hugeLam_a t) ?_ | refine Cg _ (hugeType_a y.ty) ?_ | refine Cg _ (yMayR_a y.ty) ?_ | refine Cg _ (hrt) ?_ | refine Cg _ (htx) ?_ | refine Cg _ (yCheck_a y.ty) ?_ | refine Cg _ (lMay_a t 0 0) ?_ | refine Cg _ (hasConst_a t hz) ?_ | refine Cg _ (lsizeR_a t 60 (by decide) (by decide)) ?_ | refine Cg _ (hR) ?_ | refine Cg _ (hpr) ?_ | refine Cg _ (hsame) ?_ | refine Cg _ (hcas) ?_ | refine Cg _ (hhas) ?_ | ((with_reducible first | refine Wo (fun K hK => ?_) | refine Wp ?_ | refine Wq ?_ | refine Wr ?_); (try simp only [go_sem, fN, ↓gI, ↓pI, seval, eT, iR, hz1, hz2, hy, hm, hp, h60, dT, dF, nL]); (repeat with_reducible refine And.intro (by first | omega | exact lens | (simp [maxLen_eq] <;> omega)) ?_); (try (refine hK _ ?_; clear hK K)); (try with_reducible refine iC ?_)))
            simp only [go_sem, fN, ↓gI, ↓pI, seval, FinQ, AS.result, resAll, resOne, tupV]
            try simp
          · have hb := hb3 (by decide)
            subst hb
            have hv : hasV 0 y (.b 0) 8 = (false, 8) := rfl
            rw [hv] at hhas
            refine ac_L_InferSays (Nat.le_of_ble_eq_true rfl) fun C hC => ?_
            unfold ir_L_InferSays
            repeat' (first | (with_reducible first | refine W ?_ | refine Wk (by decide) ?_) | refine Cg _ (hugeLam_a t) ?_ | refine Cg _ (hugeType_a y.ty) ?_ | refine Cg _ (yMayR_a y.ty) ?_ | refine Cg _ (hrt) ?_ | refine Cg _ (htx) ?_ | refine Cg _ (yCheck_a y.ty) ?_ | refine Cg _ (lMay_a t 0 0) ?_ | refine Cg _ (hasConst_a t hz) ?_ | refine Cg _ (lsizeR_a t 60 (by decide) (by decide)) ?_ | refine Cg _ (hR) ?_ | refine Cg _ (hpr) ?_ | refine Cg _ (hhas) ?_ | ((with_reducible first | refine Wo (fun K hK => ?_) | refine Wp ?_ | refine Wq ?_ | refine Wr ?_); (try simp only [go_sem, fN, ↓gI, ↓pI, seval, eT, iR, hz1, hz2, hy, hm, hp, h60, dT, dF, nL]); (repeat with_reducible refine And.intro (by first | omega | exact lens | (simp [maxLen_eq] <;> omega)) ?_); (try (refine hK _ ?_; clear hK K)); (try with_reducible refine iC ?_)))
            simp only [go_sem, fN, ↓gI, ↓pI, seval, FinQ, AS.result, resAll, resOne, tupV]
            try simp
          · have hb := hb3 (by decide)
            subst hb
            have hv : hasV 0 y (.b 0) 11 = (false, 0) := rfl
            rw [hv] at hhas
            refine ac_L_InferSays (Nat.le_of_ble_eq_true rfl) fun C hC => ?_
            unfold ir_L_InferSays
            repeat' (first | (with_reducible first | refine W ?_ | refine Wk (by decide) ?_) | refine Cg _ (hugeLam_a t) ?_ | refine Cg _ (hugeType_a y.ty) ?_ | refine Cg _ (yMayR_a y.ty) ?_ | refine Cg _ (hrt) ?_ | refine Cg _ (htx) ?_ | refine Cg _ (yCheck_a y.ty) ?_ | refine Cg _ (lMay_a t 0 0) ?_ | refine Cg _ (hasConst_a t hz) ?_ | refine Cg _ (lsizeR_a t 60 (by decide) (by decide)) ?_ | refine Cg _ (hR) ?_ | refine Cg _ (hpr) ?_ | refine Cg _ (hhas) ?_ | ((with_reducible first | refine Wo (fun K hK => ?_) | refine Wp ?_ | refine Wq ?_ | refine Wr ?_); (try simp only [go_sem, fN, ↓gI, ↓pI, seval, eT, iR, hz1, hz2, hy, hm, hp, h60, dT, dF, nL]); (repeat with_reducible refine And.intro (by first | omega | exact lens | (simp [maxLen_eq] <;> omega)) ?_); (try (refine hK _ ?_; clear hK K)); (try with_reducible refine iC ?_)))
            simp only [go_sem, fN, ↓gI, ↓pI, seval, FinQ, AS.result, resAll, resOne, tupV]
            try simp
    · have hhas := hhas ⟨hpr, hA, hB, hD⟩
      have he := hA hm
      have hb := hb3 (by rw [he]; exact hm)
      subst hb
      rw [he] at hpr hhas
      by_cases h11 : t.may 0 0 = 11
      · have hv : hasV 0 y (.b 0) 11 = (false, 0) := rfl
        rw [h11, hv] at hhas
        refine ac_L_InferSays (Nat.le_of_ble_eq_true rfl) fun C hC => ?_
        unfold ir_L_InferSays
        repeat' (first | (with_reducible first | refine W ?_ | refine Wk (by decide) ?_) | refine Cg _ (hugeLam_a t) ?_ | refine Cg _ (hugeType_a y.ty) ?_ | refine Cg _ (yMayR_a y.ty) ?_ | refine Cg _ (hrt) ?_ | refine Cg _ (htx) ?_ | refine Cg _ (yCheck_a y.ty) ?_ | refine Cg _ (lMay_a t 0 0) ?_ | refine Cg _ (hpr) ?_ | refine Cg _ (hhas) ?_ | ((with_reducible first | refine Wo (fun K hK => ?_) | refine Wp ?_ | refine Wq ?_ | refine Wr ?_); (try simp only [go_sem, fN, ↓gI, ↓pI, seval, eT, iR, hz1, hz2, hy, hm, h11, dT, dF, nL]); (repeat with_reducible refine And.intro (by first | omega | exact lens | (simp [maxLen_eq] <;> omega)) ?_); (try (refine hK _ ?_; clear hK K)); (try with_reducible refine iC ?_)))
        simp only [go_sem, fN, ↓gI, ↓pI, seval, FinQ, AS.result, resAll, resOne, tupV]
        try simp
      · have hv : hasV 0 y (.b 0) (t.may 0 0) = (false, t.may 0 0) := by unfold hasV; rw [if_neg (by simp), if_neg h11, if_pos hm]
        rw [hv] at hhas
        refine ac_L_InferSays (Nat.le_of_ble_eq_true rfl) fun C hC => ?_
        unfold ir_L_InferSays
        repeat' (first | (with_reducible first | refine W ?_ | refine Wk (by decide) ?_) | refine Cg _ (hugeLam_a t) ?_ | refine Cg _ (hugeType_a y.ty) ?_ | refine Cg _ (yMayR_a y.ty) ?_ | refine Cg _ (hrt) ?_ | refine Cg _ (htx) ?_ | refine Cg _ (yCheck_a y.ty) ?_ | refine Cg _ (lMay_a t 0 0) ?_ | refine Cg _ (hpr) ?_ | refine Cg _ (hhas) ?_ | ((with_reducible first | refine Wo (fun K hK => ?_) | refine Wp ?_ | refine Wq ?_ | refine Wr ?_); (try simp only [go_sem, fN, ↓gI, ↓pI, seval, eT, iR, hz1, hz2, hy, hm, h11, dT, dF, nL]); (repeat with_reducible refine And.intro (by first | omega | exact lens | (simp [maxLen_eq] <;> omega)) ?_); (try (refine hK _ ?_; clear hK K)); (try with_reducible refine iC ?_)))
        simp only [go_sem, fN, ↓gI, ↓pI, seval, FinQ, AS.result, resAll, resOne, tupV]
        try simp
end Go.Proofs.YtehnjhkndbcmgaaGreatDoor

namespace Go.Proofs.YtehnjhkndbcmgaaGreatDoor
open Go Go.RowKit
set_option maxRecDepth 100000
def ir_R_App : IR :=
  (.seq (.ops [.i 2 (.box 24 (.t 0)), .i 3 (.box 24 (.t 1)), .i 4 (.alloc 24 [.st (.int .i64 0), .st (.int .i64 0), .full []])]) (.seq (.ops [.i 5 (.load true 3 (.t 2)), .i 6 (.load true 3 (.t 3)), .i 7 (.buildSlice false 24 3 [.t 5, .t 6]), .i 8 (.build [.st (.int .i64 0), .st (.int .i64 0), .full []] [(0, 1, .n 3), (2, 1, .t 7)]), .mk none none (.store 3 (.t 4) (.t 8)) .no]) .ret))
theorem tr_R_App : trCode Tryz.prog 9 [] (Tryz.f55.body.getD .skip) = some ir_R_App := by kernel_rfl
theorem ac_R_App {xs : List AV} {r : AV} (hn : xs.length ≤ 9) (h : ∀ C : Ctx, C.n = 9 → IWP Tryz.prog C [] ir_R_App (FinQ [.cell 4 true 3] r) (AS.start xs)) : ACalls Tryz.prog 55 xs r :=
  acalls_of Tryz.func55 rfl tr_R_App rfl hn h
def ir_R_Fun : IR :=
  (.seq (.ops [.i 1 (.box 24 (.t 0)), .i 2 (.alloc 24 [.st (.int .i64 0), .st (.int .i64 0), .full []])]) (.seq (.ops [.i 3 (.load true 3 (.t 1)), .i 4 (.buildSlice false 24 3 [.t 3]), .i 5 (.build [.st (.int .i64 0), .st (.int .i64 0), .full []] [(0, 1, .n 2), (2, 1, .t 4)]), .mk none none (.store 3 (.t 2) (.t 5)) .no]) .ret))
theorem tr_R_Fun : trCode Tryz.prog 6 [] (Tryz.f58.body.getD .skip) = some ir_R_Fun := by kernel_rfl
theorem ac_R_Fun {xs : List AV} {r : AV} (hn : xs.length ≤ 6) (h : ∀ C : Ctx, C.n = 6 → IWP Tryz.prog C [] ir_R_Fun (FinQ [.cell 2 true 3] r) (AS.start xs)) : ACalls Tryz.prog 58 xs r :=
  acalls_of Tryz.func58 rfl tr_R_Fun rfl hn h
end Go.Proofs.YtehnjhkndbcmgaaGreatDoor

namespace Go.Proofs.YtehnjhkndbcmgaaGreatDoor
open Go Go.RowKit
set_option linter.unusedVariables false
mutual
def Lm.wf : Lm → Prop
  | .mk k i xs => (1 ≤ k ∧ k ≤ 5 ∧ (xs.length : Int) = nSubs k) ∧ Lm.wfs xs
def Lm.wfs : List Lm → Prop
  | [] => True
  | t :: ts => t.wf ∧ Lm.wfs ts
end
def Lm.top (k : Int) (xs : List Lm) : Option Lm := match xs with
  | f :: x :: _ => if k = 3 ∧ f.kind = 2 then (match f.subs with | b :: _ => some (Lm.put x 0 b) | [] => none) else none
  | _ => none
mutual
def Lm.outer : Lm → Option Lm
  | .mk k i xs => match Lm.top k xs with
    | some y => some y
    | none => match Lm.outers xs with
      | some ys => some (.mk k i ys)
      | none => none
def Lm.outers : List Lm → Option (List Lm)
  | [] => none
  | t :: ts => match t.outer with
    | some x => some (x :: ts)
    | none => match Lm.outers ts with
      | some ys => some (t :: ys)
      | none => none
end
def Lm.run : Nat → Int → Lm → Lm × Int × Int
  | left, n, t => match t.outer with
    | none => (t, n, 0)
    | some x => match left with
      | 0 => (Lm.nil, 0, 9)
      | left + 1 => if 2000 < x.size then (Lm.nil, 0, 8) else Lm.run left (n + 1) x
end Go.Proofs.YtehnjhkndbcmgaaGreatDoor

namespace Go.Proofs.YtehnjhkndbcmgaaGreatDoor
open Go Go.RowKit
set_option linter.unusedVariables false
mutual
def Lm.known (m : Int) : Lm → Prop
  | .mk k i xs => (k = 5 → 0 ≤ i ∧ i < m) ∧ Lm.knowns m xs
def Lm.knowns (m : Int) : List Lm → Prop
  | [] => True
  | t :: ts => t.known m ∧ Lm.knowns m ts
end
mutual
def Lm.fill (ws : List Lm) : Lm → Lm
  | .mk k i xs => if k = 5 then ws.getD i.toNat Lm.nil else .mk k i (Lm.fills ws xs)
def Lm.fills (ws : List Lm) : List Lm → List Lm
  | [] => []
  | t :: ts => Lm.fill ws t :: Lm.fills ws ts
end
def Lm.v (i : Int) : Lm := .mk 1 i []
def Lm.l (t : Lm) : Lm := .mk 2 0 [t]
def Lm.a (f x : Lm) : Lm := .mk 3 0 [f, x]
def Lm.isOne (t : Lm) : Option Lm := match t.subs with
  | f :: x :: _ => if t.kind = 3 ∧ f.same (Lm.v 1) = true then some x else none
  | _ => none
def Lm.chain : Nat → Lm → Int × Lm
  | 0, t => (0, t)
  | n + 1, t => match t.isOne with
    | some x => ((Lm.chain n x).1 + 1, (Lm.chain n x).2)
    | none => (0, t)
def Lm.ch (t : Lm) : Int × Lm := Lm.chain t.size t
def Lm.val (t : Lm) : Int := if t.same (Lm.l (Lm.v 0)) = true then 1 else
  if t.kind = 2 then (match t.subs with
    | g :: _ => if g.kind = 2 then (match g.subs with
      | b :: _ => if b.ch.2.same (Lm.v 0) = true then b.ch.1 else -1
      | [] => -1) else -1
    | [] => -1) else -1
end Go.Proofs.YtehnjhkndbcmgaaGreatDoor

namespace Go.Proofs.YtehnjhkndbcmgaaGreatDoor
open Go Go.RowKit
set_option linter.unusedVariables false
set_option linter.unusedSimpArgs false
set_option maxHeartbeats 400000
theorem lApp_a (f x : Lm) : ACalls Tryz.prog 55 [aLm f, aLm x] (aLm (Lm.a f x)) := by
  refine ac_R_App (Nat.le_of_ble_eq_true rfl) fun C hC => ?_
  unfold ir_R_App
  repeat' (first | (with_reducible first | refine W ?_ | refine Wk (by decide) ?_) | ((with_reducible first | refine Wo (fun K hK => ?_) | refine Wp ?_ | refine Wq ?_ | refine Wr ?_); (try simp only [go_sem, fN, ↓gI, ↓pI, seval, eT, iR, dT, dF, nL]); (repeat with_reducible refine And.intro (by first | omega | exact lens | (simp [maxLen_eq] <;> omega)) ?_); (try (refine hK _ ?_; clear hK K)); (try with_reducible refine iC ?_)))
  simp only [go_sem, fN, ↓gI, ↓pI, seval, FinQ, AS.result, resAll, resOne, tupV]
  simp [Lm.a, Lm.kind_mk, Lm.idx_mk, Lm.subs_mk, encL_eq]
theorem lFun_a (t : Lm) : ACalls Tryz.prog 58 [aLm t] (aLm (Lm.l t)) := by
  refine ac_R_Fun (Nat.le_of_ble_eq_true rfl) fun C hC => ?_
  unfold ir_R_Fun
  repeat' (first | (with_reducible first | refine W ?_ | refine Wk (by decide) ?_) | ((with_reducible first | refine Wo (fun K hK => ?_) | refine Wp ?_ | refine Wq ?_ | refine Wr ?_); (try simp only [go_sem, fN, ↓gI, ↓pI, seval, eT, iR, dT, dF, nL]); (repeat with_reducible refine And.intro (by first | omega | exact lens | (simp [maxLen_eq] <;> omega)) ?_); (try (refine hK _ ?_; clear hK K)); (try with_reducible refine iC ?_)))
  simp only [go_sem, fN, ↓gI, ↓pI, seval, FinQ, AS.result, resAll, resOne, tupV]
  simp [Lm.l, Lm.kind_mk, Lm.idx_mk, Lm.subs_mk, encL_eq]
end Go.Proofs.YtehnjhkndbcmgaaGreatDoor

namespace Go.Proofs.YtehnjhkndbcmgaaGreatDoor
open Go Go.RowKit
set_option maxRecDepth 100000
def ir_R_Con : IR :=
  (.seq (.ops [.i 2 (.alloc 24 [.st (.int .i64 0), .st (.int .i64 0), .full []])]) (.seq (.ops [.i 3 (.mov (.t 0)), .i 4 (.build [.st (.int .i64 0), .st (.int .i64 0), .full []] [(0, 1, .n 4), (1, 1, .t 3)]), .mk none none (.store 3 (.t 2) (.t 4)) .no]) .ret))
theorem tr_R_Con : trCode Tryz.prog 5 [] (Tryz.f88.body.getD .skip) = some ir_R_Con := by kernel_rfl
theorem ac_R_Con {xs : List AV} {r : AV} (hn : xs.length ≤ 5) (h : ∀ C : Ctx, C.n = 5 → IWP Tryz.prog C [] ir_R_Con (FinQ [.cell 2 true 3] r) (AS.start xs)) : ACalls Tryz.prog 88 xs r :=
  acalls_of Tryz.func88 rfl tr_R_Con rfl hn h
end Go.Proofs.YtehnjhkndbcmgaaGreatDoor

namespace Go.Proofs.YtehnjhkndbcmgaaGreatDoor
open Go Go.RowKit
set_option linter.unusedVariables false
set_option linter.unusedSimpArgs false
set_option maxHeartbeats 1000000
theorem lCon_a (i : Int) : ACalls Tryz.prog 88 [aInt i] (aLm (.mk 4 i [])) := by
  refine ac_R_Con (Nat.le_of_ble_eq_true rfl) fun C hC => ?_
  unfold ir_R_Con
  repeat' (first | (with_reducible first | refine W ?_ | refine Wk (by decide) ?_) | ((with_reducible first | refine Wo (fun K hK => ?_) | refine Wp ?_ | refine Wq ?_ | refine Wr ?_); (try simp only [go_sem, fN, ↓gI, ↓pI, seval, eT, iR, dT, dF, nL]); (repeat with_reducible refine And.intro (by first | omega | exact lens | (simp [maxLen_eq] <;> omega)) ?_); (try (refine hK _ ?_; clear hK K)); (try with_reducible refine iC ?_)))
  simp only [go_sem, fN, ↓gI, ↓pI, seval, FinQ, AS.result, resAll, resOne, tupV]
  simp [Lm.kind_mk, Lm.idx_mk, Lm.subs_mk, encL_eq]
end Go.Proofs.YtehnjhkndbcmgaaGreatDoor
