/-
  Part 8 of the texts. Conditions: none.
-/
import Derived.Test.YtlbpdlnndnfnlaaToD7
namespace Go.Proofs.Ytlbpdlnndnfnlaa
open Go Go.RowKit
set_option linter.unusedVariables false
set_option linter.unusedSimpArgs false
set_option maxHeartbeats 1000000
def N0 (b : Bd) : KV × AV := (.s b.1, aTm b.2)
abbrev Ph (l : List Bd) : AJ := .map none (l.map N0)
theorem HK (l : List Bd) (n : ByteArray) : EY (l.map N0) (.s n) = (lookup l n).map fun t => aTm t := by
 induction l with
 | nil => rfl
 | cons b l ih =>
  unfold lookup
  rw [List.map_cons, EY, List.find?_cons]
  by_cases h : b.1 = n
  ·have h1 : decide (b.1 = n) = true := decide_eq_true h
   rw [if_pos (show (N0 b).1 = KV.s n from congrArg KV.s h)]
   simp only [h1]
   rfl
  ·have h1 : decide (b.1 = n) = false := decide_eq_false h
   rw [if_neg (show ¬ (N0 b).1 = KV.s n from fun e => h (KV.s.inj e)), ih]
   simp only [h1]
   rfl
theorem Pi {l : List Bd} {n : ByteArray} (h : lookup l n = none) (t : Tm) : LP (l.map N0) (.s n) (aTm t) = (l ++ [(n, t)]).map N0 := by
 rw [KW (by rw [HK, h]; rfl), List.map_append]
 rfl
theorem TE (p : Tm) (hz : p.size ≤ 1000000) : ∀ (t : Tm) (a0 : Nat) (l : List Bd) (S : AA), 1000 ≤ a0 → S a0 = some (Ph l) →
  Aq Try.prog 57 [aTm p, aTm t, .one (.mptr a0)] S (Ad (p.mt t l).2) (AG S a0 (some (Ph (p.mt t l).1))) := by
 induction h : SizeOf.sizeOf p using Nat.strongRecOn generalizing p with
 | _ N ih =>
 subst h
 intro t a0 l S ha0 hSa
 have hs := Tm.size_eq p
 have hln := Tm.length_le p.args
 refine Jq.acS fun hS C hC => ?_
 have n3 : S 3 = none := Aj hS (by omega)
 have n4 : S 4 = none := Aj hS (by omega)
 have n7 : S 7 = none := Aj hS (by omega)
 have d3 : ¬ 3 = a0 := by omega
 have d4 : ¬ 4 = a0 := by omega
 have d7 : ¬ 7 = a0 := by omega
 have e3 : ¬ a0 = 3 := by omega
 have e4 : ¬ a0 = 4 := by omega
 have e7 : ¬ a0 = 7 := by omega
 unfold Fy
 repeat' with_reducible first | refine W ?_ | refine Z0 ?_ | ((first | refine Wo fun K hK => ?_ | refine Wp ?_ | refine Wq ?_ | refine Wr ?_); (try simp only [go_sem, fN, seval, eT, iR, n3, n4, dT, dF, nL]); (repeat refine Ai ?_); (try (refine hK _ ?_; clear hK K)); try refine iC ?_)
 refine ⟨_, Bm _, ?_⟩
 cases hv : AZ p.name with
 | true =>
  cases hl : lookup l p.name with
  | some x =>
   repeat' (first | (with_reducible first | refine W ?_ | refine Z0 ?_ | ((first | refine Wo fun K hK => ?_ | refine Wp ?_ | refine Wq ?_ | refine Wr ?_); (try simp only [go_sem, fN, seval, eT, iR, hv, hSa, n3, n4, n7, d3, d4, d7, e3, e4, e7, Cv, I_, KV.of, KQ, HK, hl, dT, dF, nL]); (repeat refine Ai ?_); (try (refine hK _ ?_; clear hK K)); try refine iC ?_)) | refine Cg _ (LK _ _) ?_)
   rw [Tm.mt_old hv hl]
   refine CV (Ad (x.beq t)) hS ha0 rfl trivial rfl rfl (by simp only [go_sem, fN, seval, eT, iR, e3, e4, e7, hSa]) fun i hi hne => ?_
   have i3 : ¬ i = 3 := by omega
   have i4 : ¬ i = 4 := by omega
   have i7 : ¬ i = 7 := by omega
   simp only [go_sem, fN, seval, eT, iR, i3, i4, i7]
  | none =>
   repeat' with_reducible first | refine W ?_ | refine Z0 ?_ | ((first | refine Wo fun K hK => ?_ | refine Wp ?_ | refine Wq ?_ | refine Wr ?_); (try simp only [go_sem, fN, seval, eT, iR, hv, hSa, n3, n4, n7, d3, d4, d7, e3, e4, e7, Cv, I_, KV.of, KQ, HK, hl, Pi, dT, dF, nL]); (repeat refine Ai ?_); (try (refine hK _ ?_; clear hK K)); try refine iC ?_)
   rw [Tm.mt_new hv hl]
   refine CV (Ad true) hS ha0 rfl trivial rfl rfl (by simp only [go_sem, fN, seval, eT, iR, e3, e4, e7, hSa]) fun i hi hne => ?_
   have i3 : ¬ i = 3 := by omega
   have i4 : ¬ i = 4 := by omega
   have i7 : ¬ i = 7 := by omega
   simp only [go_sem, fN, seval, eT, iR, i3, i4, i7, hne]
 | false =>
  by_cases hn : p.name = t.name
  case neg =>
   have hc : ¬ (p.name = t.name ∧ p.args.length = t.args.length) := fun h => hn h.1
   repeat' with_reducible first | refine W ?_ | refine Z0 ?_ | ((first | refine Wo fun K hK => ?_ | refine Wp ?_ | refine Wq ?_ | refine Wr ?_); (try simp only [go_sem, fN, seval, eT, iR, hv, hSa, n3, n4, n7, d3, d4, d7, e3, e4, e7, hn, dT, dF, nL]); (repeat refine Ai ?_); (try (refine hK _ ?_; clear hK K)); try refine iC ?_)
   rw [Tm.mt_clash hv hc]
   refine CV (Ad false) hS ha0 rfl trivial rfl rfl (by simp only [go_sem, fN, seval, eT, iR, e3, e4, hSa]) fun i hi hne => ?_
   have i3 : ¬ i = 3 := by omega
   have i4 : ¬ i = 4 := by omega
   simp only [go_sem, fN, seval, eT, iR, i3, i4]
  by_cases hlen : p.args.length = t.args.length
  case neg =>
   have hc : ¬ (p.name = t.name ∧ p.args.length = t.args.length) := fun h => hlen h.2
   have hlen' : ¬ (p.args.length : Int) = t.args.length := by omega
   repeat' with_reducible first | refine W ?_ | refine Z0 ?_ | ((first | refine Wo fun K hK => ?_ | refine Wp ?_ | refine Wq ?_ | refine Wr ?_); (try simp only [go_sem, fN, seval, eT, iR, hv, hSa, n3, n4, n7, d3, d4, d7, e3, e4, e7, hn, hlen', dT, dF, nL]); (repeat refine Ai ?_); (try (refine hK _ ?_; clear hK K)); try refine iC ?_)
   rw [Tm.mt_clash hv hc]
   refine CV (Ad false) hS ha0 rfl trivial rfl rfl (by simp only [go_sem, fN, seval, eT, iR, e3, e4, hSa]) fun i hi hne => ?_
   have i3 : ¬ i = 3 := by omega
   have i4 : ¬ i = 4 := by omega
   simp only [go_sem, fN, seval, eT, iR, i3, i4]
  have hlen' : (p.args.length : Int) = t.args.length := by omega
  have hknot : p.mt t l = Tm.mtL p.args t.args l := Tm.mt_knot hv hn hlen
  repeat' with_reducible first | refine W ?_ | refine Z0 ?_ | ((first | refine Wo fun K hK => ?_ | refine Wp ?_ | refine Wq ?_ | refine Wr ?_); (try simp only [go_sem, fN, seval, eT, iR, hv, hSa, n3, n4, n7, d3, d4, d7, e3, e4, e7, hn, hlen', dT, dF, nL]); (repeat refine Ai ?_); (try (refine hK _ ?_; clear hK K)); try refine iC ?_)
  refine IWP.loop (fun m x => ∃ k, k ≤ p.args.length ∧ m = p.args.length - k ∧ (Tm.mtL (p.args.take k) (t.args.take k) l).2 = true ∧ x.env 2 = .one (.mptr a0) ∧ x.env 3 = .one (.ptr 3 1 0 0) ∧ x.env 4 = .one (.ptr 4 1 0 0) ∧ x.env 44 = AR p.args.length ∧ x.env 45 = AR k ∧
    x.S 3 = some (.box 27 [.st (.str t.name), .st (.list (p.args.map Ap))]) ∧ x.S 4 = some (.box 27 [.st (.str t.name), .st (.list (t.args.map Ap))]) ∧ x.S a0 = some (Ph (Tm.mtL (p.args.take k) (t.args.take k) l).1) ∧ ∀ i, 1000 ≤ i → i ≠ a0 → x.S i = S i)
   p.args.length ⟨0, Nat.zero_le _, rfl, by simp [Tm.mtL], rfl, rfl, rfl, by simp only [go_sem, fN, seval, eT, iR, hlen'], rfl, by simp only [go_sem, fN, seval, eT, iR, hn], rfl, by (simp only [go_sem, fN, seval, eT, iR, e3, e4, hSa]); simp [Tm.mtL], fun i hi hne => ?_⟩ ?_
  ·have i3 : ¬ i = 3 := by omega
   have i4 : ¬ i = 4 := by omega
   simp only [go_sem, fN, seval, eT, iR, i3, i4]
  rintro m ⟨env, S1⟩ ⟨k, hk, rfl, hok, e2, e3', e4', e44, e45, s3, s4, sa, hrest⟩
  simp only at e2 e3' e4' e44 e45 s3 s4 sa hrest
  have hend : ∀ (b : Bool) (r : List Bd) (env : Nat → AV) (S2 : AA), env 6 = Ad b → S2 a0 = some (Ph r) → (∀ i, 1000 ≤ i → i ≠ a0 → S2 i = S i) → HC C [.t 6] (Ad b) (AG S a0 (some (Ph r))) .ret ⟨env, S2⟩ := fun b r env S2 h6 h1 h2 =>
   CV (Ad b) hS ha0 rfl trivial (by simp only [AB, AD, AK, h6, Option.map_some]) rfl h1 h2
  by_cases hlt : (k : Int) < p.args.length
  ·obtain ⟨a, ha⟩ := Ay (show k < p.args.length by omega)
   obtain ⟨c, hc⟩ := Ay (show k < t.args.length by omega)
   have hstep := Tm.mtL_take hlen ha hc hok
   repeat' with_reducible first | refine W ?_ | refine Z0 ?_ | ((first | refine Wo fun K hK => ?_ | refine Wp ?_ | refine Wq ?_ | refine Wr ?_); (try simp only [go_sem, fN, seval, eT, iR, e2, e3', e4', e44, e45, s3, s4, sa, hlt, ha, hc, dT, dF, nL]); (repeat refine Ai ?_); (try (refine hK _ ?_; clear hK K)); try refine iC ?_)
   refine ⟨_, _, ih _ (Tm.lt_of_arg (Ah ha)) a (by have := Tm.size_mem (Ah ha); omega) rfl c (up1 a0) (Tm.mtL (p.args.take k) (t.args.take k) l).1 (upS S1) (BA a0) (by rw [BY, sa]; rfl), ?_⟩
   rw [← hstep]
   cases hb : (Tm.mtL (p.args.take (k + 1)) (t.args.take (k + 1)) l).2 with
   | true =>
    repeat' with_reducible first | refine W ?_ | refine Z0 ?_ | ((first | refine Wo fun K hK => ?_ | refine Wp ?_ | refine Wq ?_ | refine Wr ?_); (try simp only [go_sem, fN, seval, eT, iR, hb, e2, e3', e4', e44, e45, s3, s4, dT, dF, nL]); (repeat refine Ai ?_); (try (refine hK _ ?_; clear hK K)); try refine iC ?_)
    refine AO ⟨p.args.length - (k + 1), by omega, k + 1, by omega, rfl, hb, ?_⟩
    simp only [go_sem, fN, seval, eT, iR, e2, e3', e4', e44, s3, s4, d3, d4]
    refine ⟨by congr 3, fun i hi hne => ?_⟩
    simp only [go_sem, fN, seval, eT, iR, hne]
    exact hrest i hi hne
   | false =>
    have hno := Tm.mtL_no hlen hb
    repeat' with_reducible first | refine W ?_ | refine Z0 ?_ | ((first | refine Wo fun K hK => ?_ | refine Wp ?_ | refine Wq ?_ | refine Wr ?_); (try simp only [go_sem, fN, seval, eT, iR, hb, e2, e3', e4', e44, e45, s3, s4, dT, dF, nL]); (repeat refine Ai ?_); (try (refine hK _ ?_; clear hK K)); try refine iC ?_)
    rw [hknot, hno]
    refine hend false _ _ _ rfl (by simp only [go_sem, fN, seval, eT, iR]) fun i hi hne => ?_
    simp only [go_sem, fN, seval, eT, iR, hne]
    exact hrest i hi hne
  ·rw [List.take_of_length_le (by omega), List.take_of_length_le (by omega)] at hok sa
   repeat' with_reducible first | refine W ?_ | refine Z0 ?_ | ((first | refine Wo fun K hK => ?_ | refine Wp ?_ | refine Wq ?_ | refine Wr ?_); (try simp only [go_sem, fN, seval, eT, iR, e44, e45, hlt, dT, dF, nL]); (repeat refine Ai ?_); (try (refine hK _ ?_; clear hK K)); try refine iC ?_)
   rw [hknot, hok]
   exact hend true _ _ _ rfl sa hrest
theorem Jr {l m : List Bd} (h : l.Perm m) (hn : Cf m) : Br l = Br m :=
 DV (Ct (EQ h.symm hn)) (Ct hn) ((Cq l).trans (h.trans (Cq m).symm))
theorem NT (p t : Tm) (hp : p.size ≤ 100000) (ht : t.size ≤ 1000000) : AT Try.prog 48 [aTm p, aTm t] (.tup [Rh (Ar p t), Ad (Bj p t)]) := by
 have hnm := Gf p t
 have hml := Q2 p t
 have hms := Ou p t
 refine Jo.ac fun C hC => ?_
 unfold Fn
 repeat' with_reducible first | refine W ?_ | refine Z0 ?_ | ((first | refine Wo fun K hK => ?_ | refine Wp ?_ | refine Wq ?_ | refine Wr ?_); (try simp only [go_sem, fN, seval, eT, iR, dT, dF, nL]); (repeat refine Ai ?_); (try (refine hK _ ?_; clear hK K)); try refine iC ?_)
 refine ⟨_, _, TE p (by omega) t (up1 10) [] _ (BA 10) (by rw [BY]; rfl), ?_⟩
 cases hc : (p.mt t []).2 with
 | false =>
  repeat' with_reducible first | refine W ?_ | refine Z0 ?_ | ((first | refine Wo fun K hK => ?_ | refine Wp ?_ | refine Wq ?_ | refine Wr ?_); (try simp only [go_sem, fN, seval, eT, iR, hc, dT, dF, nL]); (repeat refine Ai ?_); (try (refine hK _ ?_; clear hK K)); try refine iC ?_)
  simp only [go_sem, fN, seval, AN, AS.result, AB, AD, AK]
  unfold Ar Bj
  rw [hc]
  rfl
 | true =>
  have hca : Ar p t = Br (p.mt t []).1 := by unfold Ar; rw [if_pos hc]
  have his : Bj p t = true := hc
  repeat' with_reducible first | refine W ?_ | refine Z0 ?_ | ((first | refine Wo fun K hK => ?_ | refine Wp ?_ | refine Wq ?_ | refine Wr ?_); (try simp only [go_sem, fN, seval, eT, iR, hc, Cv, dT, dF, nL]); (repeat refine Ai ?_); (try (refine hK _ ?_; clear hK K)); try refine iC ?_)
  rw [hca, his]
  generalize (p.mt t []).1 = l at *
  refine IWP.ghost (Ac.ownM 7 500 95 3 (by rfl) (by rfl) (by rw [hC]; decide)) ?_
  refine IWP.loopD [9] (fun m x => ∃ seen : List Nat, seen.Nodup ∧ (∀ j ∈ seen, j < l.length) ∧ m = l.length - seen.length ∧ x.env 7 = .one (.row 500 seen.length) ∧ x.env 17 = .one (.ptr 17 1 0 0) ∧ x.S 10 = some (Ph l) ∧ x.S 17 = some (.iter (.mptr 10) l.length seen) ∧ x.S 500 = some (Fu (met l seen)) ∧ x.S 9 = none) l.length ⟨[], List.nodup_nil, by simp, rfl, rfl, rfl, by simp only [go_sem, fN, seval, eT, iR], by simp only [go_sem, fN, seval, eT, iR], rfl, rfl⟩ ?_
  rintro m ⟨env, S⟩ ⟨seen, hnd, hlt, rfl, e7, e17, s10, s17, s500, s9⟩
  simp only at e7 e17 s10 s17 s500 s9
  have hsl := M1 hnd hlt
  have hmt := Oc hlt
  repeat' with_reducible first | refine W ?_ | refine Z0 ?_ | ((first | refine Wo fun K hK => ?_ | refine Wp ?_ | refine Wq ?_ | refine Wr ?_); (try simp only [go_sem, fN, seval, eT, iR, e7, e17, s10, s17, Dp, dT, dF, nL]); (repeat refine Ai ?_); (try (refine hK _ ?_; clear hK K)); try refine iC ?_)
  refine ⟨fun hall => ?_, fun j x c hx hj hkv => ?_⟩
  ·have hmp := RC hnd hlt hall
   have hl' : seen.length = l.length := by rw [← hmt]; exact hmp.length_eq
   refine hK _ ?_
   clear hK K
   refine Wb ?_
   refine Wa ?_
   with_reducible refine Wp ?_
   simp only [go_sem, fN, seval, true_implies, false_implies, implies_true, dT, dF, nL]
   (try with_reducible refine iC ?_)
   repeat' (with_reducible first | refine Wb ?_ | refine Wc ?_ | refine Wd ?_ | refine We ?_ | refine Wg ?_ | refine Wh ?_ | refine Wi ?_ | refine Wj ?_ | refine Wk (by decide) ?_ | refine Wl ?_ | refine Wm ?_ | refine Wn ?_)
   refine IWP.mid (fun x => x.env 4 = .one (.row 500 l.length) ∧ x.env 5 = Ad true ∧ x.S 500 = some (Fu (Br l))) ?_ ?_
   ·have hs := Tb (met l seen) (EQ hmp.symm hnm) (by omega) (up1 500) (BA 500) (upS S) (by rw [BY, s500]; rfl)
    rw [hmt, hl', Jr hmp hnm] at hs
    rw [hl'] at e7
    repeat' with_reducible first | refine W ?_ | refine Z0 ?_ | ((first | refine Wo fun K hK => ?_ | refine Wq ?_ | refine Wr ?_); (try simp only [go_sem, fN, seval, eT, iR, e7]); (repeat refine Ai ?_); (try (refine hK _ ?_; clear hK K)))
    refine ⟨_, _, hs, ?_⟩
    repeat' with_reducible first | refine W ?_ | refine Z0 ?_ | ((first | refine Wo fun K hK => ?_ | refine Wq ?_ | refine Wr ?_); (try simp only [go_sem, fN, seval, eT, iR, e7]); (repeat refine Ai ?_); (try (refine hK _ ?_; clear hK K)))
    refine ⟨rfl, ?_⟩
    simp only [go_sem, fN, seval, eT, iR]
   rintro ⟨env, S⟩ ⟨e4, e5, s500⟩
   simp only at e4 e5 s500
   refine IWP.ghost (Ac.share (id := 500) s500) ?_
   repeat' with_reducible first | refine W ?_ | refine Z0 ?_ | ((first | refine Wo fun K hK => ?_ | refine Wq ?_ | refine Wr ?_); (try simp only [go_sem, fN, seval, eT, iR]); (repeat refine Ai ?_); (try (refine hK _ ?_; clear hK K)))
   simp only [go_sem, fN, seval, AN, AS.result, AB, AD, AK, e4, e5, Bl]
  ·rw [Option.map_eq_some_iff] at hx
   obtain ⟨b, hb, rfl⟩ := hx
   have hbz := hms b (Ah hb)
   have hjl : j < l.length := by
    rcases Nat.lt_or_ge j l.length with h | h
    ·exact h
    ·rw [List.getElem?_eq_none h] at hb; cases hb
   have hcv : c = .str b.1 := by
    have : some (SV.str b.1) = some c := hkv
    cases this
    rfl
   subst hcv
   have hnd' : (seen ++ [j]).Nodup := by
    rw [List.nodup_append]
    exact ⟨hnd, by simp, fun a ha b hb e => hj (by rw [List.mem_singleton.1 hb] at e; rw [← e]; exact ha)⟩
   have hlt' : ∀ i ∈ seen ++ [j], i < l.length := fun i hi => by
    rcases List.mem_append.1 hi with h | h
    ·exact hlt i h
    ·rw [List.mem_singleton.1 h]; exact hjl
   have hsl' := M1 hnd' hlt'
   rw [List.length_append, List.length_singleton] at hsl'
   refine hK _ ?_
   clear hK K
   refine Wb ?_
   repeat' (first | (with_reducible first | refine W ?_ | refine Z0 ?_ | ((first | refine Wo fun K hK => ?_ | refine Wp ?_ | refine Wq ?_ | refine Wr ?_); (try simp only [go_sem, fN, seval, eT, iR, e7, e17, s10, s17, s500, s9, Dp, List.getLast?_concat, hb, N0, KV.sv, hmt, Ey, dT, dF, nL]); (repeat refine Ai ?_); (try (refine hK _ ?_; clear hK K)); try refine iC ?_)) | refine Cg _ (NZ b.2 (by omega)) ?_)
   refine AO ⟨l.length - (seen.length + 1), by omega, seen ++ [j], hnd', hlt', by rw [List.length_append, List.length_singleton], ?_⟩
   rw [Qf hb]
   simp only [go_sem, fN, seval, AS.drop, As, AC.clears, AC.clear, AC.highs, AC.high, Bool.not_false, Bool.true_and, Bool.and_self, AV.purge, AV.purges, AC.purge, AJ.purge, List.contains_cons, List.contains_nil, Nat.reduceBEq, Bool.or_self, Bool.or_false, Bool.false_or, Bool.or_true, eT, iR, e7, e17, s10, s500]
   show AJ.mrow _ _ ((met l seen).map Ey ++ [Ey b]) = Fu _
   rw [Fu, List.map_append]
   rfl

def E2 (u : Tm) (left : Int) : Tm × Int := if (u.size : Int) ≤ left then (u, left - u.size) else (Tm.nil, -1)
abbrev Gb (s : List Bd) (left : Int) : AJ := .box 99 [.st (.list (s.map Ey)), .st (.int .i64 left)]
theorem G_ {u : Tm} {left : Int} (h : (u.size : Int) ≤ left) : E2 u left = (u, left - u.size) := if_pos h
theorem GX {u : Tm} {left : Int} (h : ¬ (u.size : Int) ≤ left) : E2 u left = (Tm.nil, -1) := if_neg h
theorem Kn (s : List Bd) (h40 : s.length ≤ 100000) (ho : BM s) (turn : Bool) (f : Tm → Tm) (t : Tm) (hl : turn = true → lookup s t.name = none)
  (ih : ∀ a ∈ t.args, ∀ (a0 : Nat) (left : Int) (S : AA), 1000 ≤ a0 → 0 ≤ left → left ≤ 1000000 → S a0 = some (Gb s left) →
   Aq Try.prog 59 [.one (.ptr a0 1 0 0), aTm a, Ad turn] S (aTm (E2 (f a) left).1) (AG S a0 (some (Gb s (E2 (f a) left).2))))
  (a0 : Nat) (left : Int) (S : AA) (ha0 : 1000 ≤ a0) (h0 : 0 ≤ left) (h1 : left ≤ 1000000) (hSa : S a0 = some (Gb s left)) :
  Aq Try.prog 59 [.one (.ptr a0 1 0 0), aTm t, Ad turn] S (aTm (E2 (.mk t.name (t.args.map f)) left).1) (AG S a0 (some (Gb s (E2 (.mk t.name (t.args.map f)) left).2))) := by
 refine Bh.acS fun hS C hC => ?_
 have hu : (Tm.mk t.name (t.args.map f)).size = 1 + Tm.sizes (t.args.map f) := rfl
 have hlen := Tm.length_le (t.args.map f)
 rw [List.length_map] at hlen
 have n4 : S 4 = none := Aj hS (by omega)
 have n6 : S 6 = none := Aj hS (by omega)
 have n7 : S 7 = none := Aj hS (by omega)
 have n9 : S 9 = none := Aj hS (by omega)
 have n11 : S 11 = none := Aj hS (by omega)
 have n900 : S 900 = none := Aj hS (by omega)
 have d4 : ¬ 4 = a0 := by omega
 have d6 : ¬ 6 = a0 := by omega
 have d7 : ¬ 7 = a0 := by omega
 have d9 : ¬ 9 = a0 := by omega
 have d11 : ¬ 11 = a0 := by omega
 have d900 : ¬ 900 = a0 := by omega
 have e4 : ¬ a0 = 4 := by omega
 have e6 : ¬ a0 = 6 := by omega
 have e7 : ¬ a0 = 7 := by omega
 have e9 : ¬ a0 = 9 := by omega
 have e11 : ¬ a0 = 11 := by omega
 have e900 : ¬ a0 = 900 := by omega
 unfold BF
 cases turn
 case' false =>
  repeat' with_reducible first | refine W ?_ | refine Z0 ?_ | ((first | refine Wo fun K hK => ?_ | refine Wq ?_ | refine Wr ?_); (try simp only [go_sem, fN, seval, eT, iR, hSa, n4, n6, n7, d4, d6, d7, e4, e6, e7]); (repeat refine Ai ?_); (try (refine hK _ ?_; clear hK K)))
  with_reducible refine Wp ?_
  simp only [go_sem, fN, seval, true_implies, false_implies, implies_true, dT, dF, nL]
  (try with_reducible refine iC ?_)
  repeat' with_reducible first | refine W ?_ | refine Z0 ?_ | ((first | refine Wo fun K hK => ?_ | refine Wq ?_ | refine Wr ?_); (try simp only [go_sem, fN, seval, eT, iR, hSa, n4, n6, n7, n9, d4, d6, d7, d9, e4, e6, e7, e9]); (repeat refine Ai ?_); (try (refine hK _ ?_; clear hK K)))
 case' true =>
  have hln := hl rfl
  repeat' with_reducible first | refine W ?_ | refine Z0 ?_ | ((first | refine Wo fun K hK => ?_ | refine Wq ?_ | refine Wr ?_); (try simp only [go_sem, fN, seval, eT, iR, hSa, n4, n6, n7, d4, d6, d7, e4, e6, e7]); (repeat refine Ai ?_); (try (refine hK _ ?_; clear hK K)))
  with_reducible refine Wp ?_
  simp only [go_sem, fN, seval, true_implies, false_implies, implies_true, dT, dF, nL]
  (try with_reducible refine iC ?_)
  repeat' (first | (with_reducible first | refine W ?_ | refine Z0 ?_ | ((first | refine Wo fun K hK => ?_ | refine Wq ?_ | refine Wr ?_); (try simp only [go_sem, fN, seval, eT, iR, hSa, n4, n6, n7, d4, d6, d7, e4, e6, e7, hln]); (repeat refine Ai ?_); (try (refine hK _ ?_; clear hK K)))) | refine Cg _ (Rt s h40 ho t.name) ?_)
  with_reducible refine Wp ?_
  simp only [go_sem, fN, seval, true_implies, false_implies, implies_true, dT, dF, nL]
  (try with_reducible refine iC ?_)
  repeat' with_reducible first | refine W ?_ | refine Z0 ?_ | ((first | refine Wo fun K hK => ?_ | refine Wq ?_ | refine Wr ?_); (try simp only [go_sem, fN, seval, eT, iR, hSa, n4, n6, n7, n9, d4, d6, d7, d9, e4, e6, e7, e9]); (repeat refine Ai ?_); (try (refine hK _ ?_; clear hK K)))
 all_goals
  by_cases hz : left = 0
  ·subst hz
   have hno : ¬ ((Tm.mk t.name (t.args.map f)).size : Int) ≤ 0 := by rw [hu]; omega
   rw [GX hno]
   with_reducible refine Wp ?_
   simp only [go_sem, fN, seval, true_implies, false_implies, implies_true, dT, dF, nL]
   (try with_reducible refine iC ?_)
   repeat' with_reducible first | refine W ?_ | refine Z0 ?_ | ((first | refine Wo fun K hK => ?_ | refine Wq ?_ | refine Wr ?_); (try simp only [go_sem, fN, seval, eT, iR, hSa, n4, n6, n7, n9, d4, d6, d7, d9, e4, e6, e7, e9]); (repeat refine Ai ?_); (try (refine hK _ ?_; clear hK K)))
   refine CV (.agg [.st (.str ⟨#[]⟩), .full []]) hS ha0 rfl trivial ?_ ?_ ?_ fun i hi hne => ?_
   ·simp only [go_sem, fN, seval, eT, iR, AB, AD, AK, e4, e6, e7, e9, d4, d6, d7, d9]
   ·simp only [go_sem, fN, seval, eT, iR, Tm.nil]
    rfl
   ·simp only [go_sem, fN, seval, eT, iR, e4, e6, e7, e9]
   ·have i4 : ¬ i = 4 := by omega
    have i6 : ¬ i = 6 := by omega
    have i7 : ¬ i = 7 := by omega
    simp only [go_sem, fN, seval, eT, iR, i4, i6, i7, hne]
  have hz' : ¬ left - 1 < 0 := by omega
  with_reducible refine Wp ?_
  simp only [go_sem, fN, seval, true_implies, false_implies, implies_true, dT, dF, nL, hz']
  (try with_reducible refine iC ?_)
  repeat' with_reducible first | refine W ?_ | refine Z0 ?_ | ((first | refine Wo fun K hK => ?_ | refine Wq ?_ | refine Wr ?_); (try simp only [go_sem, fN, seval, eT, iR, hSa, n4, n6, n7, n9, d4, d6, d7, d9, e4, e6, e7, e9]); (repeat refine Ai ?_); (try (refine hK _ ?_; clear hK K)))
  refine IWP.ghost (Ac.ownC 9 1 900 27 2 (xs := ([] : List Tm).map Ap) (by simp only [go_sem, fN, seval, eT, iR, d9, d4, d6, d7, e9]; rfl) rfl (by simp only [go_sem, fN, seval, eT, iR, n900, d900]) HR) ?_
  refine IWP.loopD [11] (fun m x => ∃ k, k ≤ t.args.length ∧ m = t.args.length - k ∧ (Tm.sizes ((t.args.take k).map f) : Int) ≤ left - 1 ∧ x.env 0 = .one (.ptr a0 1 0 0) ∧ x.env 2 = Ad _ ∧ x.env 6 = .one (.ptr 6 1 0 0) ∧ x.env 9 = .one (.ptr 9 1 0 0) ∧ x.env 44 = .one (.st (.list (t.args.map Ap))) ∧ x.env 45 = AR t.args.length ∧ x.env 46 = AR k ∧
    x.S 6 = some (.box 27 [.st (.str ⟨#[]⟩), .full []]) ∧ x.S 9 = some (.box 27 [.st (.str t.name), .row 900 k]) ∧ x.S 900 = some (.arow 27 2 (((t.args.take k).map f).map Ap)) ∧ x.S 11 = none ∧ x.S a0 = some (Gb s (left - 1 - Tm.sizes ((t.args.take k).map f))) ∧ ∀ i, 1000 ≤ i → i ≠ a0 → x.S i = S i)
   t.args.length ⟨0, Nat.zero_le _, rfl, by show (0 : Int) ≤ _; omega, rfl, rfl, rfl, rfl, rfl, rfl, rfl, by simp only [go_sem, fN, seval, eT, iR, d6, d4, d7, d9, e6], by (simp only [go_sem, fN, seval, eT, iR, d9]); rfl, by simp only [go_sem, fN, seval, eT, iR, e9], by simp only [go_sem, fN, seval, eT, iR, n11, d11], by (simp only [go_sem, fN, seval, eT, iR, e9, e900]); simp [Tm.sizes], fun i hi hne => ?_⟩ ?_
  ·have i4 : ¬ i = 4 := by omega
   have i6 : ¬ i = 6 := by omega
   have i7 : ¬ i = 7 := by omega
   have i9 : ¬ i = 9 := by omega
   have i900 : ¬ i = 900 := by omega
   simp only [go_sem, fN, seval, eT, iR, i4, i6, i7, i9, i900, hne]
  rintro m ⟨env, S1⟩ ⟨k, hk, rfl, hsz, e0, e2, e6', e9', e44, e45, e46, s6, s9, s900, s11, sa, hrest⟩
  simp only at e0 e2 e6' e9' e44 e45 e46 s6 s9 s900 s11 sa hrest
  have hlk : (t.args.take k).length = k := by rw [List.length_take]; omega
  have hle := Tm.sizes_take_le (t.args.map f) k
  rw [← List.map_take] at hle
  have hkl := Tm.length_le ((t.args.take k).map f)
  rw [List.length_map, hlk] at hkl
  by_cases hlt : (k : Int) < t.args.length
  ·obtain ⟨a, ha⟩ := Ay (show k < t.args.length by omega)
   have ha' : (t.args.map f)[k]? = some (f a) := by rw [List.getElem?_map, ha]; rfl
   have z1 := Tm.sizes_take ha'
   have z2 := Tm.sizes_take_le (t.args.map f) (k + 1)
   rw [← List.map_take, ← List.map_take] at z1
   rw [← List.map_take] at z2
   repeat' with_reducible first | refine W ?_ | refine Z0 ?_ | ((first | refine Wo fun K hK => ?_ | refine Wq ?_ | refine Wr ?_); (try simp only [go_sem, fN, seval, eT, iR, e0, e2, e6', e9', e44, e45, e46, s6, s9, s900, s11, sa, hlt]); (repeat refine Ai ?_); (try (refine hK _ ?_; clear hK K)))
   with_reducible refine Wp ?_
   simp only [go_sem, fN, seval, true_implies, false_implies, implies_true, dT, dF, nL, hlt]
   (try with_reducible refine iC ?_)
   repeat' with_reducible first | refine W ?_ | refine Z0 ?_ | ((first | refine Wo fun K hK => ?_ | refine Wq ?_ | refine Wr ?_); (try simp only [go_sem, fN, seval, eT, iR, e0, e2, e6', e9', e44, e45, e46, s6, s9, s900, s11, sa, d11, d9, e11, ha]); (repeat refine Ai ?_); (try (refine hK _ ?_; clear hK K)))
   have hcall := ih a (Ah ha) (up1 a0) (left - 1 - Tm.sizes ((t.args.take k).map f)) (upS (AG (AG S1 11 (some (.box 27 [.st (.str ⟨#[]⟩), .full []]))) 11 (some (.box 27 [.st (.str a.name), .st (.list (a.args.map Ap))])))) (BA a0) (by omega) (by omega) (by rw [BY, AH _ e11, AH _ e11, sa]; rfl)
   by_cases hfit : ((f a).size : Int) ≤ left - 1 - Tm.sizes ((t.args.take k).map f)
   ·rw [G_ hfit] at hcall
    refine ⟨_, _, hcall, ?_⟩
    have hge : ¬ left - 1 - Tm.sizes ((t.args.take k).map f) - (f a).size < 0 := by omega
    repeat' with_reducible first | refine W ?_ | refine Z0 ?_ | ((first | refine Wo fun K hK => ?_ | refine Wq ?_ | refine Wr ?_); (try simp only [go_sem, fN, seval, eT, iR, e0, e2, e6', e9', e44, e45, e46, s6, s9, s900, s11, d11, d9, e11, e9, e900, d900, hlk]); (repeat refine Ai ?_); (try (refine hK _ ?_; clear hK K)))
    with_reducible refine Wp ?_
    simp only [go_sem, fN, seval, true_implies, false_implies, implies_true, dT, dF, nL, hge]
    (try with_reducible refine iC ?_)
    repeat' with_reducible first | refine W ?_ | refine Z0 ?_ | ((first | refine Wo fun K hK => ?_ | refine Wq ?_ | refine Wr ?_); (try simp only [go_sem, fN, seval, eT, iR, e0, e2, e6', e9', e44, e45, e46, s6, s9, s900, s11, d11, d9, e11]); (repeat refine Ai ?_); (try (refine hK _ ?_; clear hK K)))
    refine AO ⟨t.args.length - (k + 1), by omega, k + 1, by omega, rfl, ?_⟩
    have hib : (a0 == 11) = false := by simp; omega
    have hzz : ((Tm.sizes ((t.args.take (k + 1)).map f) : Nat) : Int) = Tm.sizes ((t.args.take k).map f) + (f a).size := by omega
    refine ⟨by omega, ?_⟩
    simp only [go_sem, fN, seval, AS.drop, As, AC.clears, AC.clear, AC.highs, AC.high, Bool.not_false, Bool.true_and, Bool.and_self, AV.purge, AV.purges, AC.purge, AJ.purge, List.contains_cons, List.contains_nil, Nat.reduceBEq, Bool.or_self, Bool.or_false, Bool.false_or, Bool.or_true, eT, iR, e0, e2, e6', e9', e44, e45, s6, s9, s900, d11, d9, e11, e9, e900, d900, d6, hib]
    refine ⟨by congr 3, by rw [A0 ha, List.map_append, List.map_append, List.map_cons, List.map_nil, List.map_cons, List.map_nil, Aa], ?_, fun i hi hne => ?_⟩
    ·congr 5
     omega
    ·have i9 : ¬ i = 9 := by omega
     have i11 : ¬ i = 11 := by omega
     have i900 : ¬ i = 900 := by omega
     have i11b : (i == 11) = false := by simp; omega
     simp only [go_sem, fN, seval, AS.drop, As, AC.clears, AC.clear, AC.highs, AC.high, Bool.not_false, Bool.true_and, Bool.and_self, AV.purge, AV.purges, AC.purge, AJ.purge, List.contains_cons, List.contains_nil, Nat.reduceBEq, Bool.or_self, Bool.or_false, Bool.false_or, Bool.or_true, eT, iR, i9, i11, i11b, i900, hne]
     rw [hrest i hi hne]
     exact TJ (by decide) fun b hb => (hS i b hb).2
   ·have hno : ¬ ((Tm.mk t.name (t.args.map f)).size : Int) ≤ left := by rw [hu]; omega
    rw [GX hfit] at hcall
    refine ⟨_, _, hcall, ?_⟩
    repeat' with_reducible first | refine W ?_ | refine Z0 ?_ | ((first | refine Wo fun K hK => ?_ | refine Wq ?_ | refine Wr ?_); (try simp only [go_sem, fN, seval, eT, iR, e0, e2, e6', e9', e44, e45, e46, s6, s9, s900, s11, d11, d9, e11, e9, e900, d900, hlk]); (repeat refine Ai ?_); (try (refine hK _ ?_; clear hK K)))
    with_reducible refine Wp ?_
    simp only [go_sem, fN, seval, true_implies, false_implies, implies_true, dT, dF, nL]
    (try with_reducible refine iC ?_)
    repeat' with_reducible first | refine W ?_ | refine Z0 ?_ | ((first | refine Wo fun K hK => ?_ | refine Wq ?_ | refine Wr ?_); (try simp only [go_sem, fN, seval, eT, iR, e0, e2, e6', e9', e44, e45, e46, s6, s9, s900, s11, d11, d9, e11, e6, d6, d900, e900]); (repeat refine Ai ?_); (try (refine hK _ ?_; clear hK K)))
    rw [GX hno]
    refine CV (.agg [.st (.str ⟨#[]⟩), .full []]) hS ha0 rfl trivial ?_ ?_ ?_ fun i hi hne => ?_
    ·simp only [go_sem, fN, seval, eT, iR, AB, AD, AK, e6', s6, e6, e9, e11, e900, d6, d9, d11, d900]
    ·simp only [go_sem, fN, seval, eT, iR, Tm.nil]
     rfl
    ·simp only [go_sem, fN, seval, eT, iR, e6, e9, e11, e900]
    ·have i6 : ¬ i = 6 := by omega
     have i9 : ¬ i = 9 := by omega
     have i11 : ¬ i = 11 := by omega
     have i900 : ¬ i = 900 := by omega
     simp only [go_sem, fN, seval, eT, iR, i6, i9, i11, i900, hne]
     exact hrest i hi hne
  ·have hall : t.args.take k = t.args := List.take_of_length_le (by omega)
   rw [hall] at hlk s900 hsz sa
   have hyes : ((Tm.mk t.name (t.args.map f)).size : Int) ≤ left := by rw [hu]; omega
   repeat' with_reducible first | refine W ?_ | refine Z0 ?_ | ((first | refine Wo fun K hK => ?_ | refine Wq ?_ | refine Wr ?_); (try simp only [go_sem, fN, seval, eT, iR, e0, e2, e6', e9', e44, e45, e46, s6, s9, s900, s11, sa, hlt]); (repeat refine Ai ?_); (try (refine hK _ ?_; clear hK K)))
   with_reducible refine Wp ?_
   simp only [go_sem, fN, seval, true_implies, false_implies, implies_true, dT, dF, nL, hlt]
   (try with_reducible refine iC ?_)
   repeat' with_reducible first | refine W ?_ | refine Z0 ?_ | ((first | refine Wo fun K hK => ?_ | refine Wq ?_ | refine Wr ?_); (try simp only [go_sem, fN, seval, eT, iR, e0, e2, e6', e9', e44, e45, e46, s6, s9, s900, s11, sa, d6]); (repeat refine Ai ?_); (try (refine hK _ ?_; clear hK K)))
   rw [G_ hyes]
   refine CV (.agg [.st (.str t.name), .row 900 k]) hS ha0 rfl trivial ?_ ?_ ?_ fun i hi hne => ?_
   ·simp only [go_sem, fN, seval, eT, iR, AB, AD, AK, e6', s6]
   ·simp only [go_sem, fN, seval, eT, iR, s900, hlk]
    rfl
   ·simp only [go_sem, fN, seval, eT, iR, e6, sa, hu]
    rw [show left - 1 - (Tm.sizes (t.args.map f) : Int) = left - ((1 + Tm.sizes (t.args.map f) : Nat) : Int) by omega]
   ·have i6 : ¬ i = 6 := by omega
    simp only [go_sem, fN, seval, eT, iR, i6]
    exact hrest i hi hne
theorem Sd (s : List Bd) (h40 : s.length ≤ 100000) (ho : BM s) (t : Tm) : ∀ (a0 : Nat) (left : Int) (S : AA), 1000 ≤ a0 → 0 ≤ left → left ≤ 1000000 → S a0 = some (Gb s left) →
  Aq Try.prog 59 [.one (.ptr a0 1 0 0), aTm t, Ad false] S (aTm (E2 t left).1) (AG S a0 (some (Gb s (E2 t left).2))) := by
 induction h : SizeOf.sizeOf t using Nat.strongRecOn generalizing t with
 | _ N ih =>
 subst h
 intro a0 left S h1 h2 h3 h4
 have := Kn s h40 ho false id t (fun h => by cases h) (fun a ha => ih _ (Tm.lt_of_arg ha) a rfl) a0 left S h1 h2 h3 h4
 rw [List.map_id, Tm.eta] at this
 exact this
theorem SE (s : List Bd) (h40 : s.length ≤ 100000) (ho : BM s) (t : Tm) (hv : ∀ b ∈ s, AZ b.1 = true) (hchk : t.chk = 0) : ∀ (a0 : Nat) (left : Int) (S : AA), 1000 ≤ a0 → 0 ≤ left → left ≤ 1000000 → S a0 = some (Gb s left) →
  Aq Try.prog 59 [.one (.ptr a0 1 0 0), aTm t, Ad true] S (aTm (E2 (t.on s) left).1) (AG S a0 (some (Gb s (E2 (t.on s) left).2))) := by
 induction h : SizeOf.sizeOf t using Nat.strongRecOn generalizing t with
 | _ N ih =>
 subst h
 intro a0 left S ha0 h0 h1 hSa
 obtain ⟨c1, c2⟩ := Tm.chk_args hchk
 cases hl : lookup s t.name with
 | none =>
  have := Kn s h40 ho true (Tm.on s) t (fun _ => hl) (fun a ha => ih _ (Tm.lt_of_arg ha) a (c2 a ha) rfl) a0 left S ha0 h0 h1 hSa
  rw [← Tm.on_knot (.inl hl)] at this
  exact this
 | some x =>
  obtain ⟨b, hb, hbn, _⟩ := GE hl
  have hargs := c1 (by rw [← hbn]; exact hv b hb)
  rw [Tm.on_leaf hl hargs]
  refine Bh.acS fun hS C hC => ?_
  have n4 : S 4 = none := Aj hS (by omega)
  have n6 : S 6 = none := Aj hS (by omega)
  have n7 : S 7 = none := Aj hS (by omega)
  have e4 : ¬ a0 = 4 := by omega
  have e6 : ¬ a0 = 6 := by omega
  have e7 : ¬ a0 = 7 := by omega
  have d4 : ¬ 4 = a0 := by omega
  have d6 : ¬ 6 = a0 := by omega
  have d7 : ¬ 7 = a0 := by omega
  unfold BF
  repeat' with_reducible first | refine W ?_ | refine Z0 ?_ | ((first | refine Wo fun K hK => ?_ | refine Wq ?_ | refine Wr ?_); (try simp only [go_sem, fN, seval, eT, iR, hSa, n4, n6, n7, d4, d6, d7, e4, e6, e7]); (repeat refine Ai ?_); (try (refine hK _ ?_; clear hK K)))
  with_reducible refine Wp ?_
  simp only [go_sem, fN, seval, true_implies, false_implies, implies_true, dT, dF, nL]
  (try with_reducible refine iC ?_)
  repeat' (first | (with_reducible first | refine W ?_ | refine Z0 ?_ | ((first | refine Wo fun K hK => ?_ | refine Wq ?_ | refine Wr ?_); (try simp only [go_sem, fN, seval, eT, iR, hSa, n4, n6, n7, d4, d6, d7, e4, e6, e7, hl]); (repeat refine Ai ?_); (try (refine hK _ ?_; clear hK K)))) | refine Cg _ (Rt s h40 ho t.name) ?_)
  with_reducible refine Wp ?_
  simp only [go_sem, fN, seval, true_implies, false_implies, implies_true, dT, dF, nL]
  (try with_reducible refine iC ?_)
  repeat' with_reducible first | refine W ?_ | refine Z0 ?_ | ((first | refine Wo fun K hK => ?_ | refine Wq ?_ | refine Wr ?_); (try simp only [go_sem, fN, seval, eT, iR, hSa, n4, n6, n7, d4, d6, d7, e4, e6, e7]); (repeat refine Ai ?_); (try (refine hK _ ?_; clear hK K)))
  have hcall := fun S' h => Sd s h40 ho x (up1 a0) left S' (BA a0) h0 h1 h
  refine ⟨_, _, hcall _ (by rw [BY]; (simp only [go_sem, fN, seval, eT, iR, e4, e6, e7, hSa])), ?_⟩
  repeat' with_reducible first | refine W ?_ | refine Z0 ?_ | ((first | refine Wo fun K hK => ?_ | refine Wq ?_ | refine Wr ?_); (try simp only [go_sem, fN, seval, eT, iR, e4, e6, e7, d4, d6, d7]); (repeat refine Ai ?_); (try (refine hK _ ?_; clear hK K)))
  refine CV (aTm (E2 x left).1) hS ha0 rfl trivial ?_ ?_ ?_ fun i hi hne => ?_
  ·simp only [go_sem, fN, seval, eT, iR, AB, AD, AK, e4, e6, e7, d4, d6, d7]
  ·simp only [go_sem, fN, seval, eT, iR]
  ·simp only [go_sem, fN, seval, eT, iR, e4, e6, e7]
  ·have i4 : ¬ i = 4 := by omega
   have i6 : ¬ i = 6 := by omega
   have i7 : ¬ i = 7 := by omega
   simp only [go_sem, fN, seval, eT, iR, i4, i6, i7, hne]
theorem Th (s : List Bd) (h40 : s.length ≤ 100000) (ho : BM s) (t : Tm) (hv : ∀ b ∈ s, AZ b.1 = true) (hchk : t.chk = 0) : AT Try.prog 49 [Rh s, aTm t] (.tup [aTm (B1 s t).1, Ad (B1 s t).2]) := by
 refine MU.ac fun C hC => ?_
 unfold Hn
 repeat' with_reducible first | refine W ?_ | refine Z0 ?_ | ((first | refine Wo fun K hK => ?_ | refine Wq ?_ | refine Wr ?_); (try simp only [go_sem, fN, seval, eT, iR]); (repeat refine Ai ?_); (try (refine hK _ ?_; clear hK K)))
 have hcall := fun S' h => SE s h40 ho t hv hchk (up1 10) 2000 S' (BA 10) (by omega) (by omega) h
 refine ⟨_, _, hcall _ (by rw [BY]; rfl), ?_⟩
 by_cases hfit : ((t.on s).size : Int) ≤ 2000
 ·have e : B1 s t = (t.on s, true) := by
   unfold B1
   rw [if_pos (by omega)]
  rw [G_ hfit]
  have hge : (0 : Int) ≤ 2000 - (t.on s).size := by omega
  repeat' with_reducible first | refine W ?_ | refine Z0 ?_ | ((first | refine Wo fun K hK => ?_ | refine Wq ?_ | refine Wr ?_); (try simp only [go_sem, fN, seval, eT, iR, hge]); (repeat refine Ai ?_); (try (refine hK _ ?_; clear hK K)))
  rw [e]
  simp only [go_sem, fN, seval, AN, AS.result, AB, AD, AK]
 ·have e : B1 s t = (Tm.nil, false) := by
   unfold B1
   rw [if_neg (by omega)]
  rw [GX hfit]
  repeat' with_reducible first | refine W ?_ | refine Z0 ?_ | ((first | refine Wo fun K hK => ?_ | refine Wq ?_ | refine Wr ?_); (try simp only [go_sem, fN, seval, eT, iR]); (repeat refine Ai ?_); (try (refine hK _ ?_; clear hK K)))
  rw [e]
  simp only [go_sem, fN, seval, AN, AS.result, AB, AD, AK]

theorem Mt (l : List Tm) (h0 : 0 < l.length) (hl : l.length ≤ 1000000) : EO Try.prog 52 [Iq l] 27 2 (l.map Ap) true := by
 unfold EO
 rw [List.length_map]
 refine BI.acS fun hS C hC => ?_
 unfold Ao
 have h0' : ¬ l.length = 0 := by omega
 have hb : l.length * 40 ≤ 140737488355328 := by omega
 repeat' with_reducible first | refine W ?_ | refine Z0 ?_ | ((first | refine Wo fun K hK => ?_ | refine Wp ?_ | refine Wq ?_ | refine Wr ?_); (try simp only [go_sem, fN, seval, eT, iR, h0', hb, dT, dF, nL]); (repeat refine Ai ?_); (try (refine hK _ ?_; clear hK K)); try refine iC ?_)
 exact Tg (mu := true) trivial 7 (by decide) rfl (fun i hi => by show AG _ _ _ _ = _; rw [AH _ (by omega)]; rfl) rfl
def GY (r : Tm × Int × Int) : AV := .tup [aTm r.1, AR r.2.1, AR r.2.2]
theorem QQ {R : List Pr} (hR : A_ R) (t : Tm) (hc : t.chk = 0) (hz : t.size ≤ 1000000) (f : Nat) (hf : f ≤ R.length) : AT Try.prog 29 [Fj R, aTm t, AR f] (GY (Db t f (R.drop f))) := by
 unfold GY
 have h40 := hR.len
 refine IA.ac fun C hC => ?_
 unfold Ew
 repeat' with_reducible first | refine W ?_ | refine Z0 ?_ | ((first | refine Wo fun K hK => ?_ | refine Wp ?_ | refine Wq ?_ | refine Wr ?_); (try simp only [go_sem, fN, seval, eT, iR, dT, dF, nL]); (repeat refine Ai ?_); (try (refine hK _ ?_; clear hK K)); try refine iC ?_)
 refine IWP.loop (fun m s => ∃ k, k ≤ R.length ∧ m = R.length - k ∧ Db t f (R.drop f) = Db t k (R.drop k) ∧ s.env 0 = Fj R ∧ s.env 4 = .one (.ptr 4 1 0 0) ∧ s.env 6 = .one (.ptr 6 1 0 0) ∧ s.S 4 = some (.box 27 [.st (.str t.name), .st (.list (t.args.map Ap))]) ∧ s.S 6 = some (.box 27 [.st (.str ⟨#[]⟩), .full []]) ∧ s.S 12 = none ∧ s.env 9 = AR k) (R.length - f) ⟨f, hf, rfl, rfl, rfl, rfl, rfl, rfl, rfl, rfl, rfl⟩ ?_
 rintro m ⟨env, S⟩ ⟨k, hk, rfl, hrk, e0, e4, e6, s4, s6, s12, e9⟩
 simp only at e0 e4 e6 s4 s6 s12 e9
 rw [hrk]
 by_cases hlt : (k : Int) < R.length
 ·obtain ⟨r, hr⟩ := Ay (show k < R.length by omega)
  have hmem := Ah hr
  have c1 := Tm.may_chk (hR.left r hmem)
  have c2 := Tm.may_chk (hR.right r hmem)
  have hok := Gn c1.1 hc
  have hd := C0 hr
  rw [hd, Db]
  by_cases hcase : Bj r.1 t = true
  ·rw [if_pos hcase]
   have hon := Th (Ar r.1 t) (by have := MA (p := r.1) (t := t); omega) hok.ord r.2 hok.var c2.1
   by_cases hon2 : (B1 (Ar r.1 t) r.2).2 = true
   ·repeat' (first | (with_reducible first | refine W ?_ | refine Z0 ?_ | ((first | refine Wo fun K hK => ?_ | refine Wp ?_ | refine Wq ?_ | refine Wr ?_); (try simp only [go_sem, fN, seval, eT, iR, e0, e4, e6, s4, s6, s12, e9, hlt, hr, EH, hcase, hon2, dT, dF, nL]); (repeat refine Ai ?_); (try (refine hK _ ?_; clear hK K)); try refine iC ?_)) | refine Cg _ (NT r.1 t (by omega) hz) ?_ | refine Cg _ (hon) ?_)
    simp only [go_sem, fN, seval, AN, AS.result, AB, AD, AK, e6, s6, hon2]
   ·have hnil := Lx hon2
    simp only [Bool.not_eq_true] at hon2
    repeat' (first | (with_reducible first | refine W ?_ | refine Z0 ?_ | ((first | refine Wo fun K hK => ?_ | refine Wp ?_ | refine Wq ?_ | refine Wr ?_); (try simp only [go_sem, fN, seval, eT, iR, e0, e4, e6, s4, s6, s12, e9, hlt, hr, EH, hcase, hon2, dT, dF, nL]); (repeat refine Ai ?_); (try (refine hK _ ?_; clear hK K)); try refine iC ?_)) | refine Cg _ (NT r.1 t (by omega) hz) ?_ | refine Cg _ (hon) ?_)
    simp only [go_sem, fN, seval, AN, AS.result, AB, AD, AK, e6, s6, hon2, hnil]
    rfl
  ·rw [if_neg hcase]
   repeat' (first | (with_reducible first | refine W ?_ | refine Z0 ?_ | ((first | refine Wo fun K hK => ?_ | refine Wp ?_ | refine Wq ?_ | refine Wr ?_); (try simp only [go_sem, fN, seval, eT, iR, e0, e4, e6, s4, s6, s12, e9, hlt, hr, EH, hcase, dT, dF, nL]); (repeat refine Ai ?_); (try (refine hK _ ?_; clear hK K)); try refine iC ?_)) | refine Cg _ (NT r.1 t (by omega) hz) ?_)
   refine AO ⟨R.length - (k + 1), by omega, k + 1, by omega, rfl, ?_, ?_⟩
   ·rfl
   ·simp only [go_sem, fN, seval, eT, iR, e0, e4, e6, s4, s6, s12, e9]
    congr 3
 ·have hd : R.drop k = [] := List.drop_of_length_le (by omega)
  rw [hd]
  repeat' with_reducible first | refine W ?_ | refine Z0 ?_ | ((first | refine Wo fun K hK => ?_ | refine Wp ?_ | refine Wq ?_ | refine Wr ?_); (try simp only [go_sem, fN, seval, eT, iR, e0, e4, e6, s4, s6, s12, e9, hlt, dT, dF, nL]); (repeat refine Ai ?_); (try (refine hK _ ?_; clear hK K)); try refine iC ?_)
  simp only [go_sem, fN, seval, AN, AS.result, AB, AD, AK, e6, s6]
  rfl
def Hk (t : Tm) (r : Option (Tm × Int)) : AV := match r with
 | none => .tup [aTm t, Ad false, AR 0]
 | some (x, e) => .tup [aTm x, Ad true, AR e]
theorem To {R : List Pr} {t : Tm} (h : Fm R t = none) : GY (Db t 0 (R.drop 0)) = .tup [aTm Tm.nil, AR (-1), AR 0] := by
 have := JI R t R 0
 unfold Fm at h
 rw [h] at this
 rw [List.drop_zero, GY, this]
theorem Tl {R : List Pr} {t x : Tm} {e : Int} (h : Fm R t = some (x, e)) : ∃ i : Nat, GY (Db t 0 (R.drop 0)) = .tup [aTm x, AR i, AR e] := by
 have := JI R t R 0
 unfold Fm at h
 rw [h] at this
 obtain ⟨i, hi⟩ := this
 exact ⟨i, by rw [List.drop_zero, GY, hi]⟩
theorem Ml {R : List Pr} (hR : A_ R) (t : Tm) (hc : t.chk = 0) (hz : t.size ≤ 1000000) : AT Try.prog 35 [Fj R, aTm t] (Hk Tm.nil (t.inn R)) := by
 induction h : SizeOf.sizeOf t using Nat.strongRecOn generalizing t with
 | _ N ih =>
 subst h
 have hs := Tm.size_eq t
 have hln := Tm.length_le t.args
 refine FC.ac fun C hC => ?_
 unfold Cy
 repeat' with_reducible first | refine W ?_ | refine Z0 ?_ | ((first | refine Wo fun K hK => ?_ | refine Wp ?_ | refine Wq ?_ | refine Wr ?_); (try simp only [go_sem, fN, seval, eT, iR, dT, dF, nL]); (repeat refine Ai ?_); (try (refine hK _ ?_; clear hK K)); try refine iC ?_)
 refine IWP.loopD [8] (fun m s => ∃ k, k ≤ t.args.length ∧ m = t.args.length - k ∧ (∀ b ∈ t.args.take k, b.inn R = none) ∧ s.env 0 = Fj R ∧ s.env 3 = .one (.ptr 3 1 0 0) ∧ s.env 4 = .one (.ptr 4 1 0 0) ∧ s.S 3 = some (.box 27 [.st (.str t.name), .st (.list (t.args.map Ap))]) ∧ s.S 4 = some (.box 27 [.st (.str ⟨#[]⟩), .full []]) ∧ s.S 8 = none ∧ s.S 11 = none ∧ s.S 12 = none ∧ s.S 41 = none ∧ s.env 17 = AR t.args.length ∧ s.env 18 = AR k)
  t.args.length ⟨0, Nat.zero_le _, rfl, by simp, rfl, rfl, rfl, rfl, rfl, rfl, rfl, rfl, rfl, rfl, rfl⟩ ?_
 rintro m ⟨env, S⟩ ⟨k, hk, rfl, hno, e0, e3, e4, s3, s4, s8, s11, s12, s41, e17, e18⟩
 simp only at e0 e3 e4 s3 s4 s8 s11 s12 s41 e17 e18
 by_cases hlt : (k : Int) < t.args.length
 ·obtain ⟨a, ha⟩ := Ay (show k < t.args.length by omega)
  have hmem := Ah ha
  have hcon := ih _ (Tm.lt_of_arg hmem) a ((Tm.chk_args hc).2 a hmem) (by have := Tm.size_mem hmem; omega) rfl
  cases hi : a.inn R with
  | none =>
   rw [hi] at hcon
   unfold Hk at hcon
   repeat' (first | (with_reducible first | refine W ?_ | refine Z0 ?_ | ((first | refine Wo fun K hK => ?_ | refine Wp ?_ | refine Wq ?_ | refine Wr ?_); (try simp only [go_sem, fN, seval, eT, iR, e0, e3, e4, s3, s4, s8, s11, s12, s41, e17, e18, hlt, ha, dT, dF, nL]); (repeat refine Ai ?_); (try (refine hK _ ?_; clear hK K)); try refine iC ?_)) | refine Cg _ (hcon) ?_)
   refine AO ⟨t.args.length - (k + 1), by omega, k + 1, by omega, rfl, ?_, ?_⟩
   ·intro b hb
    rw [A0 ha] at hb
    rcases List.mem_append.1 hb with hb | hb
    ·exact hno b hb
    ·rw [List.mem_singleton.1 hb]
     exact hi
   ·simp only [go_sem, fN, seval, AS.drop, As, AC.clears, AC.clear, AC.highs, AC.high, Bool.not_false, Bool.true_and, Bool.and_self, AV.purge, AV.purges, AC.purge, AJ.purge, List.contains_cons, List.contains_nil, Nat.reduceBEq, Bool.or_self, Bool.or_false, Bool.false_or, Bool.or_true, eT, iR, e0, e3, e4, s3, s4, s8, s11, s12, s41, e17, e18]
    congr 3
  | some r =>
   obtain ⟨y, e⟩ := r
   rw [hi] at hcon
   unfold Hk at hcon
   have hin : t.inn R = some (.mk t.name (t.args.set k y), e) := by
    rw [Tm.inn_eq, OV ha hno hi]
   rw [hin]
   unfold Hk
   by_cases he : e = 0
   all_goals
    repeat' (first | (with_reducible first | refine W ?_ | refine Z0 ?_ | ((first | refine Wo fun K hK => ?_ | refine Wp ?_ | refine Wq ?_ | refine Wr ?_); (try simp only [go_sem, fN, seval, eT, iR, e0, e3, e4, s3, s4, s8, s11, s12, s41, e17, e18, hlt, ha, he, dT, dF, nL]); (repeat refine Ai ?_); (try (refine hK _ ?_; clear hK K)); try refine iC ?_)) | refine Cg _ (hcon) ?_)
    refine ⟨_, _, _, _, Mt t.args (by omega) (by omega), by simp [AG, s41], ?_⟩
    refine Wr ?_
    simp only [go_sem, fN, seval, eT, iR, e0, e3, e4, s3, s4, s8, s11, s12, s41, e17, e18, hlt, ha, he]
    refine hK _ ?_
    clear hK K
    refine Wb ?_
    refine IWP.mid (fun x => x.env 4 = .one (.ptr 4 1 0 0) ∧ x.env 11 = .one (.ptr 11 1 0 0) ∧ x.env 9 = Ad true ∧ x.env 10 = AR e ∧ x.S 4 = some (.box 27 [.st (.str ⟨#[]⟩), .full []]) ∧ x.S 11 = some (.box 27 [.st (.str t.name), .row 41 t.args.length]) ∧ x.S 41 = some (.mrow 27 2 ((t.args.set k y).map Ap))) ?_ ?_
    ·repeat' with_reducible first | refine W ?_ | refine Z0 ?_ | ((first | refine Wo fun K hK => ?_ | refine Wp ?_ | refine Wq ?_ | refine Wr ?_); (try simp only [go_sem, fN, seval, eT, iR, e0, e3, e4, s3, s4, s8, s11, s12, s41, e17, e18, hlt, ha, he, dT, dF, nL]); (repeat refine Ai ?_); (try (refine hK _ ?_; clear hK K)); try refine iC ?_)
     refine ⟨rfl, ?_⟩
     simp only [go_sem, fN, seval, eT, iR, e0, e3, e4, s3, s4, s8, s11, s12, s41, e17, e18, hlt, ha, he]
     rw [List.map_set, Aa]
    rintro ⟨env, S⟩ ⟨e4, e11, e9, e10, s4, s11, s41⟩
    simp only at e4 e11 e9 e10 s4 s11 s41
    refine IWP.ghost (Ac.share (id := 41) s41) ?_
    have hl1 : (t.args.set k y).length = t.args.length := by simp
    repeat' with_reducible first | refine W ?_ | refine Z0 ?_ | ((first | refine Wo fun K hK => ?_ | refine Wp ?_ | refine Wq ?_ | refine Wr ?_); (try simp only [go_sem, fN, seval, eT, iR, e4, e11, e9, e10, s4, s11, hl1, dT, dF, nL]); (repeat refine Ai ?_); (try (refine hK _ ?_; clear hK K)); try refine iC ?_)
    simp only [go_sem, fN, seval, AN, AS.result, AB, AD, AK, e4, s4, hl1]
    first | rfl | (rw [he]; rfl)
 ·rw [List.take_of_length_le (by omega)] at hno
  have hin : t.inn R = Fm R t := by rw [Tm.inn_eq, Mq hno]
  rw [hin]
  have hroot := QQ hR t hc hz 0 (by omega)
  cases hr : Fm R t with
  | none =>
   rw [To hr] at hroot
   unfold Hk
   repeat' (first | (with_reducible first | refine W ?_ | refine Z0 ?_ | ((first | refine Wo fun K hK => ?_ | refine Wp ?_ | refine Wq ?_ | refine Wr ?_); (try simp only [go_sem, fN, seval, eT, iR, e0, e3, e4, s3, s4, s8, s11, s12, s41, e17, e18, hlt, dT, dF, nL]); (repeat refine Ai ?_); (try (refine hK _ ?_; clear hK K)); try refine iC ?_)) | refine Cg _ (hroot) ?_)
   simp only [go_sem, fN, seval, AN, AS.result, AB, AD, AK, e4, s4]
  | some r =>
   obtain ⟨x, e⟩ := r
   obtain ⟨i, hi⟩ := Tl hr
   rw [hi] at hroot
   unfold Hk
   repeat' (first | (with_reducible first | refine W ?_ | refine Z0 ?_ | ((first | refine Wo fun K hK => ?_ | refine Wp ?_ | refine Wq ?_ | refine Wr ?_); (try simp only [go_sem, fN, seval, eT, iR, e0, e3, e4, s3, s4, s8, s11, s12, s41, e17, e18, hlt, dT, dF, nL]); (repeat refine Ai ?_); (try (refine hK _ ?_; clear hK K)); try refine iC ?_)) | refine Cg _ (hroot) ?_)
   simp only [go_sem, fN, seval, AN, AS.result, AB, AD, AK, e4, s4]

set_option maxRecDepth 100000


section
variable {C : Ctx} {s : AS}
theorem Ac.ice (t : Nat) {id : Nat} {e : TypeId} {cs : List AC} {xs : List SV} (hS : s.S id = some (.box e cs)) (hc : stCs s.S cs = some xs) (ht : s.env t = .one (.ptr id 1 0 0)) (hn : t < C.n) : Ac C s ⟨AG s.env t (.one (.eptr xs)), AG s.S id (some (.dead 1 0))⟩ := fun a w ⟨σ, ι, R⟩ => by
 have hb := R.blk _ _ hS
 cases hb with
 | @box _ _ g vs h1 h2 h3 h4 h5 =>
  have hsc := R.stCs h4 hc
  have hkeep := ED (σ := σ) (w' := w) (g := g) (k := vs.size) (fun p x ep hx => by rw [h5 _ ep] at hx; cases hx)
  obtain ⟨hu, R'⟩ := R.turn (w' := w) hS (.dead 1 0) (ι id) (σ' := DO σ w g vs.size) hkeep (fun p hp _ => EL (fun e => hp (by rw [e]; exact h1))) (DP R.fit) (Nat.le_refl _) (fun _ => ⟨rfl, rfl⟩) ⟨rfl, rfl, rfl⟩ (Nat.le_refl _) (fun _ _ _ => rfl) (fun g h => .inl h) (fun hu => .dead fun g' hg' => ⟨_, (by rw [h1] at hg'; cases hg'; exact h3), rfl⟩)
  refine ⟨_, _, { R' with env := fun i hi => ?_ }⟩
  show AM _ _ _ _ (AG s.env t _ i)
  unfold AG
  split
  ·rename_i hit
   subst hit
   have := R.env i hi
   rw [ht] at this
   have hv := AQ this
   generalize a.tmps.getD i undef = v at hv
   cases hv with
   | ptr k1 k2 k3 k4 =>
    rw [hS] at k1
    cases k1
    obtain ⟨g', q1, q2⟩ := k4 rfl
    rw [h1] at q1
    cases q1
    rw [q2]
    have key : ∀ j x, xs[j]? = some x → ∃ v, vs[j]? = some v ∧ Ak σ v x := fun j x hx => by
     obtain ⟨v, v1, v2⟩ := hsc.get hx
     exact ⟨v, by simpa using v1, v2⟩
    have hlen : vs.size = xs.length := by simpa using hsc.len
    refine .one (.eptr (o := 0) (fun j => (vs[j]?).getD undef) (fun j x hx => ?_) (fun j x hx => ?_) (fun _ q => ?_))
    ·obtain ⟨v, v1, v2⟩ := key j x hx
     have hj : j < vs.size := (Array.getElem?_eq_some_iff.1 v1).1
     rw [Nat.zero_add, IM hj, cell_of_row w g _ _ _ _ h3]
     simp [v1]
    ·obtain ⟨v, v1, v2⟩ := key j x hx
     rw [v1]
     exact v2.mono hkeep
    ·rw [FY (by omega), D9 h3]
  ·exact R'.env i hi
theorem Ac.calm {id : Nat} {e : TypeId} {cs : List AC} {xs : List SV} (hS : s.S id = some (.box e cs)) (hc : stCs s.S cs = some xs) : Ac C s (s.set id (.box e (xs.map .st))) := fun a w ⟨σ, ι, R⟩ => by
 have hb := R.blk _ _ hS
 cases hb with
 | @box _ _ g vs h1 h2 h3 h4 h5 =>
  have hsc := R.stCs h4 hc
  obtain ⟨hu, R'⟩ := R.turn (w' := w) hS (.box e (xs.map .st)) (ι id) (σ' := σ) (fun _ _ h => h) (fun _ _ _ => rfl) R.fit (Nat.le_refl _) (fun _ => ⟨rfl, rfl⟩) ⟨rfl, rfl, rfl⟩ (Nat.le_refl _) (fun _ _ _ => rfl) (fun g h => .inl h) (fun hu => .box h1 h2 h3 ((hsc.mono fun _ _ x => Ae.st x).map_right) h5)
  exact ⟨_, _, R'⟩
end
abbrev Cm (t : Tm) : List SV := [.str t.name, .list (t.args.map Ap)]
def svW : List (Tm × Nat) → SV
 | [] => .lit (.func (.func 28) #[] #[])
 | (t, i) :: V => .clo 56 [Cm t, [.int .i64 i], [svW V]]
def acW : List (Tm × Nat) → AC
 | [] => .fn 28 []
 | (t, i) :: V => .fn 56 [.eptr (Cm t), .eptr [.int .i64 i], .eptr [svW V]]
theorem SJ (S : AA) : ∀ V, stC S (acW V) = some (svW V)
 | [] => rfl
 | (t, i) :: V => rfl
def Kh : List (Tm × Nat) → List AC
 | [] => []
 | (t, i) :: V => [.eptr (Cm t), .eptr [.int .i64 i], .eptr [svW V]]
def fnW : List (Tm × Nat) → Nat
 | [] => 28
 | (t, i) :: V => 56
theorem Ic : ∀ V, (AV.one (.st (svW V))).fnOf = some (fnW V, Kh V)
 | [] => rfl
 | (t, i) :: V => rfl
theorem HJ : ∀ V, B0 Try.prog (fnW V) = true
 | [] => by kernel_rfl
 | (t, i) :: V => by kernel_rfl
theorem GO (ρ : Nat → Nat) : ∀ V, AV.rens ρ ((Kh V).map .one) = (Kh V).map .one
 | [] => rfl
 | (t, i) :: V => rfl
theorem NP (V : List (Tm × Nat)) (x : Tm) : outVs noS (aTm x :: (Kh V).map .one) = some (aTm x :: (Kh V).map .one) := by
 cases V <;> rfl
theorem Sz (x : Tm) : AT Try.prog 28 [aTm x] (aTm x) := by
 refine Gc.ac fun C hC => ?_
 unfold Df
 repeat' with_reducible first | refine W ?_ | refine Z0 ?_ | ((first | refine Wo fun K hK => ?_ | refine Wp ?_ | refine Wq ?_ | refine Wr ?_); (try simp only [go_sem, fN, seval, eT, iR, dT, dF, nL]); (repeat refine Ai ?_); (try (refine hK _ ?_; clear hK K)); try refine iC ?_)
 simp only [go_sem, fN, seval, AN, AS.result, AB, AD, AK]
theorem RH : ∀ (V : List (Tm × Nat)) (x : Tm), KX V → AT Try.prog (fnW V) (aTm x :: (Kh V).map .one) (aTm (BP V x))
 | [], x, _ => Sz x
 | (t, i) :: V, x, hV => by
  obtain ⟨h1, h2, h3⟩ := hV
  have ih := RH V (.mk t.name (t.args.set i x)) h3
  show AT Try.prog 56 [aTm x, .one (.eptr (Cm t)), .one (.eptr [.int .i64 i]), .one (.eptr [svW V])] (aTm (BP V (.mk t.name (t.args.set i x))))
  refine GA.ac fun C hC => ?_
  unfold DI
  repeat' with_reducible first | refine W ?_ | refine Z0 ?_ | ((first | refine Wo fun K hK => ?_ | refine Wp ?_ | refine Wq ?_ | refine Wr ?_); (try simp only [go_sem, fN, seval, eT, iR, dT, dF, nL]); (repeat refine Ai ?_); (try (refine hK _ ?_; clear hK K)); try refine iC ?_)
  refine ⟨_, _, _, _, Mt t.args (by omega) h2, by simp [AG, noS], ?_⟩
  refine Wr ?_
  simp only [go_sem, fN, seval, eT, iR]
  refine hK _ ?_
  clear hK K
  refine Wb ?_
  refine IWP.mid (fun x' => x'.env 3 = .one (.eptr [svW V]) ∧ x'.env 5 = .one (.ptr 5 1 0 0) ∧ x'.env 6 = .one (.ptr 6 1 0 0) ∧ x'.S 5 = some (.box 27 [.st (.str ⟨#[]⟩), .full []]) ∧ x'.S 6 = some (.box 27 [.st (.str t.name), .row 11 t.args.length]) ∧ x'.S 11 = some (.mrow 27 2 ((t.args.set i x).map Ap))) ?_ ?_
  ·have hlt : (i : Int) < t.args.length := by omega
   obtain ⟨a, ha⟩ := Ay h1
   repeat' with_reducible first | refine W ?_ | refine Z0 ?_ | ((first | refine Wo fun K hK => ?_ | refine Wp ?_ | refine Wq ?_ | refine Wr ?_); (try simp only [go_sem, fN, seval, eT, iR, hlt, ha, dT, dF, nL]); (repeat refine Ai ?_); (try (refine hK _ ?_; clear hK K)); try refine iC ?_)
   refine ⟨rfl, ?_⟩
   simp only [go_sem, fN, seval, eT, iR, hlt, ha]
   rw [List.map_set, Aa]
  rintro ⟨env, S⟩ ⟨e3, e5, e6, s5, s6, s11⟩
  simp only at e3 e5 e6 s5 s6 s11
  have hl1 : (t.args.set i x).length = t.args.length := by simp
  refine IWP.ghost (Ac.share (id := 11) s11) ?_
  refine IWP.ghost (Ac.calm (id := 6) (e := 27) (cs := [.st (.str t.name), .row 11 t.args.length]) (xs := Cm (.mk t.name (t.args.set i x))) (by simp only [go_sem, fN, seval, eT, iR, s6]) (by simp only [go_sem, fN, seval, eT, iR, hl1, stCs, stC, Tm.name_mk, Tm.args_mk, Cm])) ?_
  repeat' with_reducible first | refine W ?_ | refine Z0 ?_ | ((first | refine Wo fun K hK => ?_ | refine Wp ?_ | refine Wq ?_ | refine Wr ?_); (try simp only [go_sem, fN, seval, eT, iR, e3, e5, e6, s5, s6, Ic, dT, dF, nL]); (repeat refine Ai ?_); (try (refine hK _ ?_; clear hK K)); try refine iC ?_)
  rw [GO]
  refine ⟨HJ V, _, _, ih.toS (NP V _), ?_⟩
  repeat' with_reducible first | refine W ?_ | refine Z0 ?_ | ((first | refine Wo fun K hK => ?_ | refine Wp ?_ | refine Wq ?_ | refine Wr ?_); (try simp only [go_sem, fN, seval, eT, iR, e3, e5, e6, s5, s6, dT, dF, nL]); (repeat refine Ai ?_); (try (refine hK _ ?_; clear hK K)); try refine iC ?_)
  simp only [go_sem, fN, seval, AN, AS.result, AB, AD, AK, e5, s5]
theorem TH (t : Tm) : AT Try.prog 27 [aTm t, .one (acW [])] (.one (.fn 46 [.eptr (Cm t), .eptr [svW []]])) := by
 refine IF.ac fun C hC => ?_
 unfold Eu
 refine IWP.mid (fun x => x.env 2 = .one (.ptr 2 1 0 0) ∧ x.env 3 = .one (.ptr 3 1 0 0) ∧ (∃ e, x.S 2 = some (.box e [.st (.str t.name), .st (.list (t.args.map Ap))])) ∧ ∃ e, x.S 3 = some (.box e [acW []])) ?_ ?_
 ·repeat' with_reducible first | refine W ?_ | refine Z0 ?_ | ((first | refine Wo fun K hK => ?_ | refine Wp ?_ | refine Wq ?_ | refine Wr ?_); (try simp only [go_sem, fN, seval, eT, iR, dT, dF, nL]); (repeat refine Ai ?_); (try (refine hK _ ?_; clear hK K)); try refine iC ?_)
  exact ⟨rfl, rfl, rfl, ⟨_, rfl⟩, ⟨_, rfl⟩⟩
 rintro ⟨env, S⟩ ⟨e2, e3, ⟨ty, s2⟩, ty', s3⟩
 simp only at e2 e3 s2 s3
 refine IWP.ghost (Ac.ice 2 (id := 2) s2 (xs := Cm t) rfl e2 (by omega)) ?_
 refine IWP.ghost (Ac.ice 3 (id := 3) (e := ty') (cs := [acW []]) (xs := [svW []]) (by simp only [go_sem, fN, seval, eT, iR, s3]) rfl (by simp only [go_sem, fN, seval, eT, iR, e3]) (by omega)) ?_
 repeat' with_reducible first | refine W ?_ | refine Z0 ?_ | ((first | refine Wo fun K hK => ?_ | refine Wp ?_ | refine Wq ?_ | refine Wr ?_); (try simp only [go_sem, fN, seval, eT, iR, AS.caps, dT, dF, nL]); (repeat refine Ai ?_); (try (refine hK _ ?_; clear hK K)); try refine iC ?_)
 simp only [go_sem, fN, seval, AN, AS.result, AB, AD, AK]
 rfl
theorem IX {s : AS} {ds : List Nat} (hds : ∀ d ∈ ds, d < 1000) {T : AA} (hT : Am T) (h : ∀ i, 1000 ≤ i → s.S i = T i) : ∀ i, 1000 ≤ i → (s.drop ds).S i = T i := fun i hi => by
 show As ds s.S i = T i
 unfold As
 rw [CR hds hi, h i hi]
 cases hb : T i with
 | none => rfl
 | some b => simp [AJ.purge_high hds (hT i b hb).2]
def R6 (q : List (Tm × Nat) × Tm) : List AV := [aTm q.2, .one (.st (svW q.1))]
theorem Sp {y : Nat} (hy : 1000 ≤ y) {all : List (List (Tm × Nat) × Tm)} {Inv : List (List (Tm × Nat) × Tm) → AA → Prop} {Jx : AA → Prop}
  (hround : ∀ pre v, (pre ++ [v]) <+: all → ∀ T, Inv pre T → Gl Try.prog (.one (.yld y)) (R6 v) T fun r T' => (r = .one (.st (.bool true)) ∧ Inv (pre ++ [v]) T') ∨ (r = .one (.st (.bool false)) ∧ Jx T')) :
  ∀ (t : Tm) (V : List (Tm × Nat)) (c : AC) (pre : List (List (Tm × Nat) × Tm)) (T : AA), (∀ S, stC S c = some (svW V)) → c.stay = true ∨ c = acW V → t.size ≤ 1000000 → (pre ++ t.visits V) <+: all → Inv pre T →
   Fg Try.prog 47 [aTm t, .one c, .one (.yld y)] T fun r T' => (r = Ad true ∧ Inv (pre ++ t.visits V) T') ∨ (r = Ad false ∧ Jx T') := by
 intro t
 induction h : SizeOf.sizeOf t using Nat.strongRecOn generalizing t with
 | _ N ih =>
 subst h
 intro V c pre T0 hc hc2 hz hpre hI
 have hs := Tm.size_eq t
 have hln := Tm.length_le t.args
 refine HZ.acR fun hclean C hC htop => ?_
 unfold D_
 have n3 := Aj hclean (show 3 < 1000 by omega)
 have n4 := Aj hclean (show 4 < 1000 by omega)
 have n7 := Aj hclean (show 7 < 1000 by omega)
 refine IWP.mid (fun x => x.env 2 = .one (.yld y) ∧ x.env 3 = .one (.ptr 3 1 0 0) ∧ x.env 4 = .one (.ptr 4 1 0 0) ∧ (∃ e, x.S 3 = some (.box e [.st (.str t.name), .st (.list (t.args.map Ap))])) ∧ (∃ e, x.S 4 = some (.box e [c])) ∧ x.S 7 = none ∧ ∀ i, 1000 ≤ i → x.S i = T0 i) ?_ ?_
 ·repeat' with_reducible first | refine W ?_ | refine Z0 ?_ | ((first | refine Wo fun K hK => ?_ | refine Wp ?_ | refine Wq ?_ | refine Wr ?_); (try simp only [go_sem, fN, seval, eT, iR, AS.startS, n3, n4, dT, dF, nL]); (repeat refine Ai ?_); (try (refine hK _ ?_; clear hK K)); try refine iC ?_)
  refine ⟨rfl, rfl, rfl, rfl, ⟨_, rfl⟩, ⟨_, rfl⟩, ?_, fun i hi => ?_⟩
  ·simp only [go_sem, fN, seval, eT, iR, n7]
  ·show AG (AG _ 3 _) 4 _ i = _
   rw [AH _ (by omega), AH _ (by omega)]
 rintro ⟨env, S⟩ ⟨e2, e3, e4, ⟨ty, s3⟩, ⟨ty', s4⟩, s7, hST⟩
 simp only at e2 e3 e4 s3 s4 s7 hST
 refine IWP.ghost (Ac.ice 3 (id := 3) s3 (xs := Cm t) rfl e3 (by omega)) ?_
 refine IWP.ghost (Ac.ice 4 (id := 4) (e := ty') (cs := [c]) (xs := [svW V]) (by simp only [go_sem, fN, seval, eT, iR, s4]) (by simp [stCs, hc]) (by simp only [go_sem, fN, seval, eT, iR, e4]) (by omega)) ?_
 have hy' := hround pre (V, t) (by
  rw [Tm.visits_eq] at hpre
  exact List.IsPrefix.trans ⟨Tm.visitsL V t 0 t.args, by simp⟩ hpre) T0 hI
 unfold R6 at hy'
 repeat' with_reducible first | refine W ?_ | refine Z0 ?_ | ((first | refine Wo fun K hK => ?_ | refine Wp ?_ | refine Wq ?_ | refine Wr ?_); (try simp only [go_sem, fN, seval, eT, iR, e2, dT, dF, nL]); (repeat refine Ai ?_); (try (refine hK _ ?_; clear hK K)); try refine iC ?_)
 refine JK.mk T0 _ hclean (fun i hi => by
   show AG (AG S 3 _) 4 _ i = _
   rw [AH _ (by omega), AH _ (by omega)]
   exact hST i hi) (by
   show ((AC.yld y).high && true) = true
   rw [G0 hy]
   rfl) hy' ?_
 have hj : ∀ {S S' : AA} (i : Nat), 1000 ≤ i → DT S S' i = S' i := fun i hi => A7 hi
 rintro r S' hS' (⟨rfl, hI'⟩ | ⟨rfl, hJ⟩)
 case inr =>
  repeat' with_reducible first | refine W ?_ | refine Z0 ?_ | ((first | refine Wo fun K hK => ?_ | refine Wp ?_ | refine Wq ?_ | refine Wr ?_); (try simp only [go_sem, fN, seval, eT, iR, e2, dT, dF, nL]); (repeat refine Ai ?_); (try (refine hK _ ?_; clear hK K)); try refine iC ?_)
  exact ⟨Ad false, S', .inr ⟨rfl, hJ⟩, At (Ad false) hS' trivial rfl rfl fun i hi => A7 hi⟩
 repeat' with_reducible first | refine W ?_ | refine Z0 ?_ | ((first | refine Wo fun K hK => ?_ | refine Wp ?_ | refine Wq ?_ | refine Wr ?_); (try simp only [go_sem, fN, seval, eT, iR, e2, dT, dF, nL]); (repeat refine Ai ?_); (try (refine hK _ ?_; clear hK K)); try refine iC ?_)
 refine IWP.loopD [7] (fun m s => ∃ k T pre', k ≤ t.args.length ∧ m = t.args.length - k ∧ pre' ++ Tm.visitsL V t k (t.args.drop k) = pre ++ t.visits V ∧ s.env 2 = .one (.yld y) ∧ s.env 3 = .one (.eptr (Cm t)) ∧ s.env 4 = .one (.eptr [svW V]) ∧ s.env 16 = AR t.args.length ∧ s.env 17 = AR k ∧ s.S 7 = none ∧ (∀ i, 1000 ≤ i → s.S i = T i) ∧ Am T ∧ Inv pre' T) t.args.length ⟨0, S', pre ++ [(V, t)], Nat.zero_le _, rfl, ?_, ?_, ?_, ?_, ?_, ?_, ?_, fun i hi => A7 hi, hS', hI'⟩ ?_
 ·rw [Tm.visits_eq]
  simp
 ·simp only [go_sem, fN, seval, eT, iR, e2]
 ·simp only [go_sem, fN, seval, eT, iR]
 ·simp only [go_sem, fN, seval, eT, iR]
 ·simp only [go_sem, fN, seval, eT, iR]
 ·simp only [go_sem, fN, seval, eT, iR]
 ·show DT (AG (AG S 3 (some (.dead 1 0))) 4 (some (.dead 1 0))) S' 7 = none
  rw [Ck (by decide), AH _ (by decide), AH _ (by decide)]
  exact s7
 rintro m ⟨env, S⟩ ⟨k, T, pre', hk, rfl, hall, e2, e3, e4, e16, e17, s7, hST, hT, hI⟩
 simp only at e2 e3 e4 e16 e17 s7 hST
 by_cases hlt : k < t.args.length
 case neg =>
  rw [List.drop_of_length_le (by omega)] at hall
  simp only [Tm.visitsL, List.append_nil] at hall
  subst hall
  have hlt' : ¬ (k : Int) < t.args.length := by omega
  repeat' with_reducible first | refine W ?_ | refine Z0 ?_ | ((first | refine Wo fun K hK => ?_ | refine Wp ?_ | refine Wq ?_ | refine Wr ?_); (try simp only [go_sem, fN, seval, eT, iR, e2, e3, e4, e16, e17, hlt', dT, dF, nL]); (repeat refine Ai ?_); (try (refine hK _ ?_; clear hK K)); try refine iC ?_)
  exact ⟨Ad true, T, .inl ⟨rfl, hI⟩, At (Ad true) hT trivial rfl rfl hST⟩
 obtain ⟨a, ha⟩ := Ay hlt
 have hmem := Ah ha
 have hlt' : (k : Int) < t.args.length := by omega
 rw [Lg ha, ← List.append_assoc] at hall
 repeat' with_reducible first | refine W ?_ | refine Z0 ?_ | ((first | refine Wo fun K hK => ?_ | refine Wq ?_ | refine Wr ?_); (try simp only [go_sem, fN, seval, eT, iR, e16, e17, hlt']); (repeat refine Ai ?_); (try (refine hK _ ?_; clear hK K)))
 with_reducible refine Wp ?_
 simp only [go_sem, fN, seval, true_implies, false_implies, implies_true, dT, dF, nL, hlt']
 (try with_reducible refine iC ?_)
 repeat' (with_reducible first | refine Wb ?_ | refine Wc ?_ | refine Wd ?_ | refine We ?_ | refine Wg ?_ | refine Wh ?_ | refine Wi ?_ | refine Wj ?_ | refine Wk (by decide) ?_ | refine Wl ?_ | refine Wm ?_ | refine Wn ?_)
 refine Wb ?_
 refine Wa ?_
 refine Wc ?_
 refine IWP.mid (fun x => x.env 2 = .one (.yld y) ∧ x.env 3 = .one (.eptr (Cm t)) ∧ x.env 4 = .one (.eptr [svW V]) ∧ x.env 16 = AR t.args.length ∧ x.env 17 = AR k ∧ x.env 7 = .one (.ptr 7 1 0 0) ∧ (∃ e, x.S 7 = some (.box e [.st (.int .i64 k)])) ∧ (∀ i, 1000 ≤ i → x.S i = T i)) ?_ ?_
 ·repeat' with_reducible first | refine W ?_ | refine Z0 ?_ | ((first | refine Wo fun K hK => ?_ | refine Wp ?_ | refine Wq ?_ | refine Wr ?_); (try simp only [go_sem, fN, seval, eT, iR, e2, e3, e4, e16, e17, s7, dT, dF, nL]); (repeat refine Ai ?_); (try (refine hK _ ?_; clear hK K)); try refine iC ?_)
  refine ⟨rfl, e2, e3, e4, e16, e17, rfl, ⟨_, rfl⟩, fun i hi => ?_⟩
  show AG (AG S 7 _) 7 _ i = _
  rw [AH _ (by omega), AH _ (by omega)]
  exact hST i hi
 clear e2 e3 e4 e16 e17 s7 hST
 rintro ⟨env, S⟩ ⟨e2, e3, e4, e16, e17, e7, ⟨ty7, s7⟩, hST⟩
 simp only at e2 e3 e4 e16 e17 e7 s7 hST
 refine IWP.ghost (Ac.ice 7 (id := 7) s7 (xs := [.int .i64 k]) rfl e7 (by omega)) ?_
 have hst : (AG S 7 (some (.dead 1 0)) : AA) 7 = some (.dead 1 0) := rfl
 have hcon := ih _ (Tm.lt_of_arg hmem) a rfl ((t, k) :: V) (acW ((t, k) :: V)) pre' T (fun S => SJ S _) (.inr rfl) (by have := Tm.size_mem hmem; omega) (List.IsPrefix.trans ⟨Tm.visitsL V t (k + 1) (List.drop (k + 1) t.args), hall⟩ hpre) hI
 repeat' with_reducible first | refine W ?_ | refine Z0 ?_ | ((first | refine Wo fun K hK => ?_ | refine Wp ?_ | refine Wq ?_ | refine Wr ?_); (try simp only [go_sem, fN, seval, eT, iR, e2, e3, e4, e16, e17, AS.caps, ha, dT, dF, nL]); (repeat refine Ai ?_); (try (refine hK _ ?_; clear hK K)); try refine iC ?_)
 refine JK.mk T _ hT (fun i hi => by
  rw [AH _ (by omega)]
  exact hST i hi) (by
   show (true && (true && ((AC.yld y).high && true))) = true
   rw [G0 hy]
   rfl) hcon ?_
 rintro r S' hS' (⟨rfl, hI'⟩ | ⟨rfl, hJ⟩)
 case inr =>
  repeat' with_reducible first | refine W ?_ | refine Z0 ?_ | ((first | refine Wo fun K hK => ?_ | refine Wp ?_ | refine Wq ?_ | refine Wr ?_); (try simp only [go_sem, fN, seval, eT, iR, e2, e3, e4, e16, e17, dT, dF, nL]); (repeat refine Ai ?_); (try (refine hK _ ?_; clear hK K)); try refine iC ?_)
  exact ⟨Ad false, S', .inr ⟨rfl, hJ⟩, At (Ad false) hS' trivial rfl rfl fun i hi => A7 hi⟩
 repeat' with_reducible first | refine W ?_ | refine Z0 ?_ | ((first | refine Wo fun K hK => ?_ | refine Wp ?_ | refine Wq ?_ | refine Wr ?_); (try simp only [go_sem, fN, seval, eT, iR, e2, e3, e4, e16, e17, dT, dF, nL]); (repeat refine Ai ?_); (try (refine hK _ ?_; clear hK K)); try refine iC ?_)
 refine ⟨t.args.length - (k + 1), by omega, k + 1, S', _, by omega, rfl, hall, ?_, ?_, ?_, ?_, ?_, rfl, IX (by decide) hS' (fun i hi => A7 hi), hS', hI'⟩
 ·have hy7 : (y == 7) = false := by
   rw [beq_eq_false_iff_ne]
   omega
  simp only [go_sem, fN, seval, AS.drop, As, AC.clears, AC.clear, AC.highs, AC.high, Bool.not_false, Bool.true_and, Bool.and_self, AV.purge, AV.purges, AC.purge, AJ.purge, List.contains_cons, List.contains_nil, Nat.reduceBEq, Bool.or_self, Bool.or_false, Bool.false_or, Bool.or_true, eT, iR, e2, hy7]
 ·simp only [go_sem, fN, seval, AS.drop, As, AC.clears, AC.clear, AC.highs, AC.high, Bool.not_false, Bool.true_and, Bool.and_self, AV.purge, AV.purges, AC.purge, AJ.purge, List.contains_cons, List.contains_nil, Nat.reduceBEq, Bool.or_self, Bool.or_false, Bool.false_or, Bool.or_true, eT, iR, e3]
 ·simp only [go_sem, fN, seval, AS.drop, As, AC.clears, AC.clear, AC.highs, AC.high, Bool.not_false, Bool.true_and, Bool.and_self, AV.purge, AV.purges, AC.purge, AJ.purge, List.contains_cons, List.contains_nil, Nat.reduceBEq, Bool.or_self, Bool.or_false, Bool.false_or, Bool.or_true, eT, iR, e4]
 ·simp only [go_sem, fN, seval, AS.drop, As, AC.clears, AC.clear, AC.highs, AC.high, Bool.not_false, Bool.true_and, Bool.and_self, AV.purge, AV.purges, AC.purge, AJ.purge, List.contains_cons, List.contains_nil, Nat.reduceBEq, Bool.or_self, Bool.or_false, Bool.false_or, Bool.or_true, eT, iR, e16]
 ·simp only [go_sem, fN, seval, AS.drop, As, AC.clears, AC.clear, AC.highs, AC.high, Bool.not_false, Bool.true_and, Bool.and_self, AV.purge, AV.purges, AC.purge, AJ.purge, List.contains_cons, List.contains_nil, Nat.reduceBEq, Bool.or_self, Bool.or_false, Bool.false_or, Bool.or_true, eT, iR, e17]
  congr 3
theorem OF (t : Tm) (hz : t.size ≤ 1000000) : S6 Try.prog 46 [.one (.eptr (Cm t)), .one (.eptr [svW []])] (fun _ => True) R6 (t.visits []) := by
 intro y Inv Jx T0 hy _ hround h0
 refine Gw.acR fun hclean C hC htop => ?_
 unfold DW
 have hcon := Sp hy hround t [] (.st (svW [])) [] T0 (fun _ => rfl) (.inl rfl) hz (List.prefix_refl _) h0
 repeat' with_reducible first | refine W ?_ | refine Z0 ?_ | ((first | refine Wo fun K hK => ?_ | refine Wp ?_ | refine Wq ?_ | refine Wr ?_); (try simp only [go_sem, fN, seval, eT, iR, AS.startS, dT, dF, nL]); (repeat refine Ai ?_); (try (refine hK _ ?_; clear hK K)); try refine iC ?_)
 refine JK.mk T0 _ hclean (fun i hi => rfl) (by
   show (true && (true && ((AC.yld y).high && true))) = true
   rw [G0 hy]
   rfl) hcon ?_
 rintro r S' hS' (⟨rfl, hI'⟩ | ⟨rfl, hJ⟩)
 ·repeat' with_reducible first | refine W ?_ | refine Z0 ?_ | ((first | refine Wo fun K hK => ?_ | refine Wp ?_ | refine Wq ?_ | refine Wr ?_); (try simp only [go_sem, fN, seval, eT, iR, dT, dF, nL]); (repeat refine Ai ?_); (try (refine hK _ ?_; clear hK K)); try refine iC ?_)
  exact ⟨.tup [], S', .inl hI', At (.tup []) hS' trivial rfl rfl fun i hi => A7 hi⟩
 ·repeat' with_reducible first | refine W ?_ | refine Z0 ?_ | ((first | refine Wo fun K hK => ?_ | refine Wp ?_ | refine Wq ?_ | refine Wr ?_); (try simp only [go_sem, fN, seval, eT, iR, dT, dF, nL]); (repeat refine Ai ?_); (try (refine hK _ ?_; clear hK K)); try refine iC ?_)
  exact ⟨.tup [], S', .inr hJ, At (.tup []) hS' trivial rfl rfl fun i hi => A7 hi⟩

def Nn (r : Tm × Int × Int) : AV := .tup [aTm r.1, AR r.2.1, AR r.2.2]
abbrev Td (t : Tm) : AJ := .box 27 [.st (.str t.name), .st (.list (t.args.map Ap))]
abbrev Tf : AJ := .box 27 [.st (.str ⟨#[]⟩), .full []]
theorem QP {step : Tm → Option (Tm × Int)} {t : Tm} (h : step t = none) (k : Nat) (n : Int) : BV step k n t = (t, n, 0) := by
 cases k <;> (unfold BV; rw [h])
theorem PZ {step : Tm → Option (Tm × Int)} {t : Tm} {r : Tm × Int} (h : step t = some r) (n : Int) : BV step 0 n t = (Tm.nil, 0, 9) := by
 unfold BV
 rw [h]
theorem Ru {step : Tm → Option (Tm × Int)} {t x : Tm} {e : Int} (h : step t = some (x, e)) (he : e ≠ 0) (k : Nat) (n : Int) : BV step (k + 1) n t = (Tm.nil, 0, e) := by
 rw [BV, h]
 exact if_pos he
theorem N_ {step : Tm → Option (Tm × Int)} {t x : Tm} (h : step t = some (x, 0)) (hz : 2000 < x.size) (k : Nat) (n : Int) : BV step (k + 1) n t = (Tm.nil, 0, 8) := by
 rw [BV, h]
 simp only [ne_eq, not_true_eq_false, if_false]
 exact if_pos hz
theorem SR {step : Tm → Option (Tm × Int)} {t x : Tm} (h : step t = some (x, 0)) (hz : ¬ 2000 < x.size) (k : Nat) (n : Int) : BV step (k + 1) n t = BV step k (n + 1) x := by
 rw [BV, h]
 simp only [ne_eq, not_true_eq_false, if_false]
 exact if_neg hz
theorem TA {R : List Pr} (hR : A_ R) (t0 : Tm) (hc0 : t0.chk = 0) (hz0 : t0.size ≤ 900000) (most : Nat) (hm : most ≤ 1000000) : AT Try.prog 22 [Fj R, aTm t0, AR most] (Nn (BV (Tm.inn R) most 0 t0)) := by
 unfold Nn
 refine IE.ac fun C hC => ?_
 unfold Ek
 repeat' (first | (with_reducible first | refine W ?_ | refine Z0 ?_ | ((first | refine Wo fun K hK => ?_ | refine Wp ?_ | refine Wq ?_ | refine Wr ?_); (try simp only [go_sem, fN, seval, eT, iR, dT, dF, nL]); (repeat refine Ai ?_); (try (refine hK _ ?_; clear hK K)); try refine iC ?_)) | refine Cg _ (NZ t0 (by omega)) ?_)
 refine IWP.loopD [10] (fun m s => ∃ (n : Nat) (t : Tm), n ≤ most ∧ m = most - n ∧ BV (Tm.inn R) most 0 t0 = BV (Tm.inn R) (most - n) n t ∧ t.chk = 0 ∧ t.size ≤ 900000 ∧ s.env 0 = Fj R ∧ s.env 2 = AR most ∧ s.env 4 = .one (.ptr 4 1 0 0) ∧ s.env 6 = .one (.ptr 6 1 0 0) ∧ s.env 9 = AR n ∧ s.S 4 = some (Td t) ∧ s.S 6 = some Tf ∧ s.S 10 = none)
  most ⟨0, t0, by omega, by omega, rfl, hc0, hz0, rfl, rfl, rfl, rfl, rfl, rfl, rfl, rfl⟩ ?_
 rintro m ⟨env, S⟩ ⟨n, t, hn, rfl, hend, hc, hz, e0, e2, e4, e6, e9, s4, s6, s10⟩
 simp only at e0 e2 e4 e6 e9 s4 s6 s10
 rw [hend]
 have hcon := Ml hR t hc (by omega)
 cases hs : t.inn R with
 | none =>
  rw [hs] at hcon
  unfold Hk at hcon
  rw [QP hs]
  repeat' (first | (with_reducible first | refine W ?_ | refine Z0 ?_ | ((first | refine Wo fun K hK => ?_ | refine Wp ?_ | refine Wq ?_ | refine Wr ?_); (try simp only [go_sem, fN, seval, eT, iR, e0, e2, e4, e6, e9, s4, s6, s10, dT, dF, nL]); (repeat refine Ai ?_); (try (refine hK _ ?_; clear hK K)); try refine iC ?_)) | refine Cg _ (hcon) ?_)
  simp only [go_sem, fN, seval, AN, AS.result, AB, AD, AK, e6, s6]
 | some r =>
  obtain ⟨x, e⟩ := r
  rw [hs] at hcon
  unfold Hk at hcon
  obtain ⟨g1, g2, g3⟩ := Gz hR hc hs
  by_cases hmost : n = most
  ·have hmi : (n : Int) = most := by omega
   rw [show most - n = 0 by omega, PZ hs]
   repeat' (first | (with_reducible first | refine W ?_ | refine Z0 ?_ | ((first | refine Wo fun K hK => ?_ | refine Wp ?_ | refine Wq ?_ | refine Wr ?_); (try simp only [go_sem, fN, seval, eT, iR, e0, e2, e4, e6, e9, s4, s6, s10, hmi, dT, dF, nL]); (repeat refine Ai ?_); (try (refine hK _ ?_; clear hK K)); try refine iC ?_)) | refine Cg _ (hcon) ?_)
   simp only [go_sem, fN, seval, AN, AS.result, AB, AD, AK, e6, s6]
   rfl
  have hmi : ¬ (n : Int) = most := by omega
  obtain ⟨k, hk⟩ : ∃ k, most - n = k + 1 := ⟨most - n - 1, by omega⟩
  rw [hk]
  by_cases he : e = 0
  case neg =>
   rw [Ru hs he]
   repeat' (first | (with_reducible first | refine W ?_ | refine Z0 ?_ | ((first | refine Wo fun K hK => ?_ | refine Wp ?_ | refine Wq ?_ | refine Wr ?_); (try simp only [go_sem, fN, seval, eT, iR, e0, e2, e4, e6, e9, s4, s6, s10, hmi, he, dT, dF, nL]); (repeat refine Ai ?_); (try (refine hK _ ?_; clear hK K)); try refine iC ?_)) | refine Cg _ (hcon) ?_)
   simp only [go_sem, fN, seval, AN, AS.result, AB, AD, AK, e6, s6]
   rfl
  case pos =>
  subst he
  have hsz := Lu x (by omega)
  by_cases hgr : (2000 : Int) < x.size
  ·rw [N_ hs (by omega)]
   repeat' (first | (with_reducible first | refine W ?_ | refine Z0 ?_ | ((first | refine Wo fun K hK => ?_ | refine Wp ?_ | refine Wq ?_ | refine Wr ?_); (try simp only [go_sem, fN, seval, eT, iR, e0, e2, e4, e6, e9, s4, s6, s10, hmi, hgr, dT, dF, nL]); (repeat refine Ai ?_); (try (refine hK _ ?_; clear hK K)); try refine iC ?_)) | refine Cg _ (hcon) ?_ | refine Cg _ (hsz) ?_)
   simp only [go_sem, fN, seval, AN, AS.result, AB, AD, AK, e6, s6]
   rfl
  ·repeat' (first | (with_reducible first | refine W ?_ | refine Z0 ?_ | ((first | refine Wo fun K hK => ?_ | refine Wp ?_ | refine Wq ?_ | refine Wr ?_); (try simp only [go_sem, fN, seval, eT, iR, e0, e2, e4, e6, e9, s4, s6, s10, hmi, hgr, dT, dF, nL]); (repeat refine Ai ?_); (try (refine hK _ ?_; clear hK K)); try refine iC ?_)) | refine Cg _ (hcon) ?_ | refine Cg _ (hsz) ?_)
   refine AO ⟨most - (n + 1), by omega, n + 1, x, by omega, rfl, ?_, g2 rfl, by omega, ?_⟩
   ·rw [show most - (n + 1) = k by omega]
    exact SR hs (by omega) k n
   ·simp only [go_sem, fN, seval, AS.drop, As, AC.clears, AC.clear, AC.highs, AC.high, Bool.not_false, Bool.true_and, Bool.and_self, AV.purge, AV.purges, AC.purge, AJ.purge, List.contains_cons, List.contains_nil, Nat.reduceBEq, Bool.or_self, Bool.or_false, Bool.false_or, Bool.or_true, eT, iR, e0, e2, e4, e6, e9, s4, s6, s10]
    congr 3
def IH (R : List Pr) (t : Tm) (m : Int) : Tm × Int × Int := if De R t = 0 then (if Da m = 0 then BV (Tm.inn R) m.toNat 0 t else (Tm.nil, 0, Da m)) else (Tm.nil, 0, De R t)
theorem Kw {R : List Pr} {t : Tm} (h : De R t = 0) : A_ R ∧ t.chk = 0 ∧ t.size ≤ 200 := by
 unfold De at h
 by_cases h0 : By R = 0
 ·rw [if_pos h0] at h
  exact ⟨Ku h0, Tm.may_chk h⟩
 ·rw [if_neg h0] at h
  exact absurd h h0
theorem LH {m : Int} (h : Da m = 0) : 0 ≤ m ∧ m ≤ 400 := by
 unfold Da at h
 split at h
 ·cases h
 ·omega
theorem Sn (R : List Pr) (t : Tm) (m : Int) : AT Try.prog 13 [Fj R, aTm t, AR m] (Nn (IH R t m)) := by
 unfold IH
 refine HE.ac fun C hC => ?_
 unfold D0
 by_cases ha : De R t = 0
 case neg =>
  rw [if_neg ha]
  unfold Nn
  repeat' (first | (with_reducible first | refine W ?_ | refine Z0 ?_ | ((first | refine Wo fun K hK => ?_ | refine Wp ?_ | refine Wq ?_ | refine Wr ?_); (try simp only [go_sem, fN, seval, eT, iR, ha, dT, dF, nL]); (repeat refine Ai ?_); (try (refine hK _ ?_; clear hK K)); try refine iC ?_)) | refine Cg _ (DB R t) ?_)
  simp only [go_sem, fN, seval, AN, AS.result, AB, AD, AK]
  rfl
 case pos =>
 rw [if_pos ha]
 by_cases hf : Da m = 0
 case neg =>
  rw [if_neg hf]
  unfold Nn
  repeat' (first | (with_reducible first | refine W ?_ | refine Z0 ?_ | ((first | refine Wo fun K hK => ?_ | refine Wp ?_ | refine Wq ?_ | refine Wr ?_); (try simp only [go_sem, fN, seval, eT, iR, ha, hf, dT, dF, nL]); (repeat refine Ai ?_); (try (refine hK _ ?_; clear hK K)); try refine iC ?_)) | refine Cg _ (DB R t) ?_ | refine Cg _ (Nk m) ?_)
  simp only [go_sem, fN, seval, AN, AS.result, AB, AD, AK]
  rfl
 case pos =>
 rw [if_pos hf]
 obtain ⟨hR, hc, hz⟩ := Kw ha
 obtain ⟨m0, m1⟩ := LH hf
 obtain ⟨n, rfl⟩ : ∃ n : Nat, m = n := ⟨m.toNat, by omega⟩
 rw [Int.toNat_natCast]
 have hl := TA hR t hc (by omega) n (by omega)
 unfold Nn at hl ⊢
 by_cases he : (BV (Tm.inn R) n 0 t).2.2 = 0
 ·repeat' (first | (with_reducible first | refine W ?_ | refine Z0 ?_ | ((first | refine Wo fun K hK => ?_ | refine Wp ?_ | refine Wq ?_ | refine Wr ?_); (try simp only [go_sem, fN, seval, eT, iR, ha, hf, he, dT, dF, nL]); (repeat refine Ai ?_); (try (refine hK _ ?_; clear hK K)); try refine iC ?_)) | refine Cg _ (DB R t) ?_ | refine Cg _ (Nk n) ?_ | refine Cg _ (hl) ?_)
  simp only [go_sem, fN, seval, AN, AS.result, AB, AD, AK]
 ·have hbad := L5 n 0 t he
  generalize BV (Tm.inn R) n 0 t = r at hl he hbad ⊢
  rw [hbad]
  dsimp only
  repeat' (first | (with_reducible first | refine W ?_ | refine Z0 ?_ | ((first | refine Wo fun K hK => ?_ | refine Wp ?_ | refine Wq ?_ | refine Wr ?_); (try simp only [go_sem, fN, seval, eT, iR, ha, hf, he, dT, dF, nL]); (repeat refine Ai ?_); (try (refine hK _ ?_; clear hK K)); try refine iC ?_)) | refine Cg _ (DB R t) ?_ | refine Cg _ (Nk n) ?_ | refine Cg _ (hl) ?_)
  simp only [go_sem, fN, seval, AN, AS.result, AB, AD, AK]
  rfl

theorem IWP.at_ {P : Program} {C : Ctx} {mu : List Nat} {x : IR} {Q : AX → AS → Prop} {env0 : Nat → AV} {S0 : AA} (M : (Nat → AV) → AA → Prop) (hM : M env0 S0) (h : ∀ env S, M env S → IWP P C mu x Q ⟨env, S⟩) : IWP P C mu x Q ⟨env0, S0⟩ := h _ _ hM
section
variable {C : Ctx} {s : AS}
theorem Ac.ownCM (id j nid : Nat) (e : TypeId) (wd : Nat) {ty : TypeId} {cs : List AC} (hb : s.S id = some (.box ty cs)) (hc : cs[j]? = some (.full [])) (hn : s.S nid = none) :
  Ac C s ((s.set nid (.mrow e wd [])).set id (.box ty (cs.set j (.row nid 0)))) := fun a w ⟨σ, ι, R⟩ => by
 have hbk := R.blk id _ hb
 have hne : id ≠ nid := fun e => by subst e; rw [hb] at hn; cases hn
 cases hbk with
 | @box _ _ g vs h1 h2 h3 h4 h5 =>
  obtain ⟨v, hv, hr⟩ := h4.get hc
  cases hr with
  | @full p len _ hs =>
   have hl : len = 0 := by
    obtain ⟨p', cap', e1, _⟩ := Bx hs
    cases e1
    rfl
   subst hl
   obtain ⟨hu, R'⟩ := R.fresh (w' := w) hn (.mrow e wd []) ⟨p, 0, none⟩ (Ext.refl _ _) R.fit (Below.refl _ _) (by simp) (fun S' ι' hu => .mnil rfl rfl)
   have hb' : (s.set nid (.mrow e wd [])).S id = some (.box ty cs) := by simp [AS.set, AH _ hne, hb]
   have hι : AG ι nid ⟨p, 0, none⟩ id = ι id := AH _ hne _
   obtain ⟨hu2, R2⟩ := R'.turn (w' := w) hb' (.box ty (cs.set j (.row nid 0))) (AG ι nid ⟨p, 0, none⟩ id) (σ' := σ) (fun _ _ h => h) (fun _ _ _ => rfl) R.fit (Nat.le_refl _) (fun _ => ⟨by simp [AJ.wid], rfl⟩) ⟨rfl, rfl, rfl⟩ (Nat.le_refl _) (fun _ _ _ => rfl) (fun g h => .inl h) (fun hu2 => by
    refine .box (by rw [hι]; exact h1) (by rw [hι]; exact h2) h3 (AY.of_get (by rw [List.length_set]; exact h4.len) fun k u c hu' hck => ?_) h5
    by_cases hk : k = j
    ·subst hk
     rw [hv] at hu'
     cases hu'
     have hlt : k < cs.length := (List.getElem?_eq_some_iff.1 hc).1
     rw [List.getElem?_set_self hlt] at hck
     cases hck
     exact .row (b := .mrow e wd []) (by simp [AS.set, AG, hne.symm]) (Nat.le_refl _) rfl fun _ => by simp [AG, hne.symm]
    ·rw [List.getElem?_set_ne (fun e => hk e.symm)] at hck
     obtain ⟨u', q1, q2⟩ := h4.get hck
     rw [hu'] at q1
     cases q1
     exact (q2.mono (fun _ _ h => h) hu).mono (fun _ _ h => h) hu2)
   exact ⟨_, _, R2⟩
end
theorem NI {S U : AA} (hU : Am U) (h : ∀ i, 1000 ≤ i → S i = U i) : BU S = U := by
 funext i
 show (if i < 1000 then none else S i) = U i
 by_cases hi : i < 1000
 ·rw [if_pos hi, Aj hU hi]
 ·rw [if_neg hi, h i (by omega)]
theorem Pn {S : AA} (h : ∀ i b, 1000 ≤ i → S i = some b → b.high = true) : Am (BU S) := fun i b hb => by
 have hb : (if i < 1000 then none else S i) = some b := hb
 by_cases hi : i < 1000
 ·rw [if_pos hi] at hb
  cases hb
 ·rw [if_neg hi] at hb
  exact ⟨by omega, h i b (by omega) hb⟩
theorem Kb {S : AA} (h : ∀ i b, 1000 ≤ i → S i = some b → b.high = true) {j : Nat} {b : AJ} (hb : b.high = true) : ∀ i b', 1000 ≤ i → AG S j (some b) i = some b' → b'.high = true := fun i b' hi he => by
 by_cases e : i = j
 ·subst e
  rw [AE] at he
  cases he
  exact hb
 ·rw [AH _ e] at he
  exact h i b' hi he
theorem KI {S : AA} (h : ∀ i b, 1000 ≤ i → S i = some b → b.high = true) {j : Nat} (hj : j < 1000) {c : Option AJ} : ∀ i b', 1000 ≤ i → AG S j c i = some b' → b'.high = true := fun i b' hi he => by
 rw [AH _ (by omega)] at he
 exact h i b' hi he
def EC (S : AA) (out : List Tm) : AA := AG (AG (upS S) 1500 (some (.mrow 27 2 (out.map Ap)))) 1006 (some (.box 25 [.row 1500 out.length]))
theorem EZ {S : AA} {out : List Tm} {i : Nat} (h : i ≠ 1500) (h' : i ≠ 1006) : EC S out i = upS S i := by
 rw [EC, AH _ h', AH _ h]
theorem PU {C : Ctx} {y : Nat} {b : AJ} {N : AA → Prop} {Jx : AX → AA → Prop} {env : Nat → AV} {S : AA} (U : AA) (hU : Am (AG U y (some b))) (hy : U y = none) (hS : ∀ i, 1000 ≤ i → S i = AG U y (some b) i) (hN : N U) : Lt C y b N Jx .normal ⟨env, S⟩ :=
 ⟨⟨fun i => (env i).low, BU S⟩, U, Ac.low (s := ⟨env, S⟩) (fun i b' hi h => by
  have h : S i = some b' := h
  rw [hS i hi] at h
  exact (hU i b' h).2), NI hU hS, by
  show Am (BU S)
  rw [NI hU hS]
  exact hU, hy, hN⟩
theorem KR {C : Ctx} {y : Nat} {b : AJ} {N : AA → Prop} {Jx : AX → AA → Prop} {env : Nat → AV} {S : AA} (h : ∀ i b, 1000 ≤ i → S i = some b → b.high = true) (hy : 1000 ≤ y) (hSy : S y = some b) (hJ : Jx .ret (AG (BU S) y none)) : Lt C y b N Jx .ret ⟨env, S⟩ :=
 ⟨⟨fun i => (env i).low, BU S⟩, AG (BU S) y none, Ac.low (s := ⟨env, S⟩) h, by
  show BU S = _
  rw [K0]
  refine (LD ?_).symm
  show (if y < 1000 then none else S y) = some b
  rw [if_neg (by omega), hSy], Pn h, AE _ _ _, hJ⟩
theorem L1 {S : AA} {i y : Nat} {c : Option AJ} (h : 1000 ≤ i) (hne : i ≠ y) : AG (BU S) y c i = S i := by
 rw [AH _ hne]
 show (if i < 1000 then none else S i) = S i
 rw [if_neg (by omega)]
abbrev Tc (R : List Pr) : AJ := .box 23 [.st (.list (R.map EH))]
abbrev MD (i : Int) : AJ := .box 30 [.st (.int .i64 i)]
def JO (o : Option (List Tm)) : AV := match o with
 | none => .tup [Iq [], AR 8]
 | some l => .tup [Iq l, AR 0]
theorem TR {R : List Pr} (hR : A_ R) (t : Tm) (hc : t.chk = 0) (hz : t.size ≤ 2000) : AT Try.prog 18 [Fj R, aTm t] (JO (Do R t)) := by
 rw [Jf]
 have h40 := hR.len
 refine IG.acT fun C hC htop => ?_
 unfold Ej
 repeat' (first | (with_reducible first | refine W ?_ | refine Z0 ?_ | ((first | refine Wo fun K hK => ?_ | refine Wp ?_ | refine Wq ?_ | refine Wr ?_); (try simp only [go_sem, fN, seval, eT, iR, dT, dF, nL]); (repeat refine Ai ?_); (try (refine hK _ ?_; clear hK K)); try refine iC ?_)) | refine Cg _ (TH t) ?_)
 refine IWP.at_ (fun env S => env 2 = .one (.ptr 2 1 0 0) ∧ env 4 = .one (.ptr 4 1 0 0) ∧ env 5 = .one (.ptr 5 1 0 0) ∧ env 6 = .one (.ptr 6 1 0 0) ∧ env 7 = .one (.ptr 7 1 0 0) ∧ env 15 = .one (.fn 46 [.eptr (Cm t), .eptr [svW []]]) ∧ S 2 = some (Tc R) ∧ S 4 = some (.box 25 [.full []]) ∧ S 5 = some (MD 0) ∧ S 6 = some (.box 25 [.full []]) ∧ S 7 = some (MD 0) ∧ S 500 = none ∧ S 501 = none) ⟨rfl, rfl, rfl, rfl, rfl, rfl, rfl, rfl, rfl, rfl, rfl, rfl, rfl⟩ ?_
 rintro env S0 ⟨e2, e4, e5, e6, e7, e15, s2, s4, s5, s6, s7, s500, s501⟩
 refine IWP.ghost (Ac.ownCM 6 0 500 27 2 s6 rfl s500) ?_
 refine IWP.at_ (fun env' S => env' = env ∧ S 2 = some (Tc R) ∧ S 4 = some (.box 25 [.full []]) ∧ S 5 = some (MD 0) ∧ S 6 = some (.box 25 [.row 500 0]) ∧ S 7 = some (MD 0) ∧ S 500 = some (.mrow 27 2 []) ∧ S 501 = none) ⟨rfl, by simp only [go_sem, fN, seval, eT, iR, s2], by simp only [go_sem, fN, seval, eT, iR, s4], by simp only [go_sem, fN, seval, eT, iR, s5], by simp only [go_sem, fN, seval, eT, iR]; rfl, by simp only [go_sem, fN, seval, eT, iR, s7], by simp only [go_sem, fN, seval, eT, iR], by simp only [go_sem, fN, seval, eT, iR, s501]⟩ ?_
 clear s2 s4 s5 s6 s7 s500 s501 S0
 rintro env' S0 ⟨rfl, s2, s4, s5, s6, s7, s500, s501⟩
 refine IWP.rangeF htop 501 (by decide) s501 (show AS.ev _ (.t 15) = _ from e15) (by kernel_rfl) (OF t (by omega)) (fun _ => rfl) (fun pre U => ∃ out, Ax R (pre.map B8) = some out ∧ U = EC S0 out) (fun ex U => ex = .ret ∧ Ax R ((t.visits []).map B8) = none ∧ U 1004 = some (.box 25 [.full []]) ∧ U 1005 = some (MD 8)) ⟨[], rfl, ?_⟩ (fun _ _ _ _ _ => trivial) ?_ ?_ ?_
 ·funext i
  unfold EC AG
  split
  ·rename_i h
   subst h
   exact C2 s6
  ·split
   ·rename_i h
    subst h
    exact C2 s500
   ·rfl
 ·rintro C' b0 b1 pre v U hC' hpre ⟨out, ho, rfl⟩ hU hcl hb1
  have hv : v ∈ t.visits [] := by
   obtain ⟨tl, htl⟩ := hpre
   rw [← htl]
   simp
  obtain ⟨hsur, hkn⟩ := KA t [] trivial (by omega) v hv
  have hvc := Gu t v.2 hc hkn
  have hvz := G5 t v.2 hkn
  have hlen := F_ ho
  have hpl := hpre.length_le
  rw [List.length_append, N4] at hpl
  rw [List.length_map] at hlen
  have hlen2 : out.length ≤ 80000 := Nat.le_trans hlen (Nat.mul_le_mul (show pre.length ≤ 2000 by simp at hpl; omega) h40)
  have n8 : EC S0 out 8 = none := Aj hcl (by decide)
  have n11 : EC S0 out 11 = none := Aj hcl (by decide)
  have w2 : EM C.n env' 2 = .one (.ptr 1002 1 0 0) := by rw [EM, if_pos (by omega), e2]; rfl
  have w4 : EM C.n env' 4 = .one (.ptr 1004 1 0 0) := by rw [EM, if_pos (by omega), e4]; rfl
  have w5 : EM C.n env' 5 = .one (.ptr 1005 1 0 0) := by rw [EM, if_pos (by omega), e5]; rfl
  have w6 : EM C.n env' 6 = .one (.ptr 1006 1 0 0) := by rw [EM, if_pos (by omega), e6]; rfl
  have w7 : EM C.n env' 7 = .one (.ptr 1007 1 0 0) := by rw [EM, if_pos (by omega), e7]; rfl
  have u501 : up1 501 = 1501 := rfl
  unfold R6
  repeat' with_reducible first | refine W ?_ | refine Z0 ?_ | ((first | refine Wo fun K hK => ?_ | refine Wp ?_ | refine Wq ?_ | refine Wr ?_); (try simp only [go_sem, fN, seval, eT, iR, Ks, n8, n11, u501, dT, dF, nL]); (repeat refine Ai ?_); (try (refine hK _ ?_; clear hK K)); try refine iC ?_)
  refine AO ⟨by simp only [go_sem, fN, seval, eT, iR, u501], ?_⟩
  have hst : ∀ i, 1000 ≤ i → AG (AG (AG (AG (EC S0 out) 1501 (some b0)) 8 (some (.box 27 [.st (.str ⟨#[]⟩), .full []]))) 8 (some (.box 27 [.st (.str v.2.name), .st (.list (v.2.args.map Ap))]))) 1501 (some b1) i = AG (EC S0 out) 1501 (some b1) i := fun i hi => by
   by_cases h : i = 1501
   ·subst h
    rw [AE, AE]
   ·rw [AH _ h, AH _ h, AH _ (by omega), AH _ (by omega), AH _ h]
  repeat' with_reducible first | refine W ?_ | refine Z0 ?_ | ((first | refine Wo fun K hK => ?_ | refine Wp ?_ | refine Wq ?_ | refine Wr ?_); (try simp only [go_sem, fN, seval, eT, iR, u501, dT, dF, nL]); (repeat refine Ai ?_); (try (refine hK _ ?_; clear hK K)); try refine iC ?_)
  refine IWP.loopD [11] (fun m s => ∃ f o2, f ≤ R.length ∧ o2.length ≤ f ∧ m = R.length - f ∧ Bi (B8 v) R = (Bi (B8 v) (R.drop f)).map (o2 ++ ·) ∧ s.env 2 = .one (.ptr 1002 1 0 0) ∧ s.env 4 = .one (.ptr 1004 1 0 0) ∧ s.env 5 = .one (.ptr 1005 1 0 0) ∧ s.env 6 = .one (.ptr 1006 1 0 0) ∧ s.env 7 = .one (.ptr 1007 1 0 0) ∧ s.env 8 = .one (.ptr 8 1 0 0) ∧ s.env 9 = .one (.st (svW v.1)) ∧ s.env 10 = AR f ∧ s.S 8 = some (.box 27 [.st (.str v.2.name), .st (.list (v.2.args.map Ap))]) ∧ s.S 11 = none ∧ ∀ i, 1000 ≤ i → s.S i = AG (EC S0 (out ++ o2)) 1501 (some b1) i) R.length ⟨0, [], Nat.zero_le _, Nat.zero_le _, rfl, ?_, ?_, ?_, ?_, ?_, ?_, ?_, ?_, ?_, ?_, ?_, ?_⟩ ?_
  ·simp
  ·simp only [go_sem, fN, seval, eT, iR, w2]
  ·simp only [go_sem, fN, seval, eT, iR, w4]
  ·simp only [go_sem, fN, seval, eT, iR, w5]
  ·simp only [go_sem, fN, seval, eT, iR, w6]
  ·simp only [go_sem, fN, seval, eT, iR, w7]
  ·simp only [go_sem, fN, seval, eT, iR]
  ·simp only [go_sem, fN, seval, eT, iR]
  ·simp only [go_sem, fN, seval, eT, iR]
  ·simp only [go_sem, fN, seval, eT, iR, u501]
  ·simp only [go_sem, fN, seval, eT, iR, n11, u501]
  ·rw [List.append_nil]
   exact hst
  rintro m ⟨env1, S1⟩ ⟨f, o2, hf, hfo, rfl, hoff, x2, x4, x5, x6, x7, x8, x9, x10, s8, s11, hS⟩
  simp only at x2 x4 x5 x6 x7 x8 x9 x10 s8 s11 hS
  have hout : ∀ o, Am (EC S0 (out ++ o)) := fun o => BZ (BZ (HI S0) (by decide) rfl) (by decide) rfl
  have t2 : S1 1002 = some (Tc R) := by rw [hS 1002 (by decide), AH _ (by decide), EZ (by decide) (by decide)]; exact C2 s2
  have t4 : S1 1004 = some (.box 25 [.full []]) := by rw [hS 1004 (by decide), AH _ (by decide), EZ (by decide) (by decide)]; exact C2 s4
  have t5 : S1 1005 = some (MD 0) := by rw [hS 1005 (by decide), AH _ (by decide), EZ (by decide) (by decide)]; exact C2 s5
  have t7 : S1 1007 = some (MD 0) := by rw [hS 1007 (by decide), AH _ (by decide), EZ (by decide) (by decide)]; exact C2 s7
  have t6 : S1 1006 = some (.box 25 [.row 1500 (out ++ o2).length]) := by rw [hS 1006 (by decide), AH _ (by decide)]; rfl
  have t15 : S1 1500 = some (.mrow 27 2 ((out ++ o2).map Ap)) := by rw [hS 1500 (by decide), AH _ (by decide)]; rfl
  have t1501 : S1 1501 = some b1 := by rw [hS 1501 (by decide), AE]
  have hhi : ∀ i b, 1000 ≤ i → S1 i = some b → b.high = true := fun i b hi h => by
   rw [hS i hi] at h
   exact ((BZ (hout o2) (by decide) hb1) i b h).2
  have hbad : Bi (B8 v) R = none → Ax R ((t.visits []).map B8) = none := fun h => by
   obtain ⟨tl, htl⟩ := hpre
   rw [← htl, List.append_assoc, List.map_append, List.singleton_append, List.map_cons]
   exact NV h
  have hroot := QQ hR v.2 hvc (by omega) f hf
  rcases Kk (B8 v) (R.drop f) f with ⟨hr, ho2⟩ | ⟨i, y, r, hi1, hi2, hmem, hcase, hy, hrest⟩
  ·rw [show (B8 v).2 = v.2 from rfl] at hr
   rw [hr] at hroot
   unfold GY at hroot
   repeat' (first | (with_reducible first | refine W ?_ | refine Z0 ?_ | ((first | refine Wo fun K hK => ?_ | refine Wp ?_ | refine Wq ?_ | refine Wr ?_); (try simp only [go_sem, fN, seval, eT, iR, x2, x4, x5, x6, x7, x8, x9, x10, s8, s11, t2, t4, t5, t6, t7, t15, dT, dF, nL]); (repeat refine Ai ?_); (try (refine hK _ ?_; clear hK K)); try refine iC ?_)) | refine Cg _ (hroot) ?_)
   rw [ho2] at hoff
   simp only [Option.map_some, List.append_nil] at hoff
   refine PU (EC S0 (out ++ o2)) (BZ (hout o2) (by decide) hb1) (by
    have := hU
    rw [EZ (by decide) (by decide)] at this ⊢
    exact this) (fun i hi => ?_) ⟨out ++ o2, ?_, rfl⟩
   ·show AG (AG S1 11 _) 11 _ i = _
    rw [AH _ (by omega), AH _ (by omega)]
    exact hS i hi
   ·rw [List.map_append]
    exact MH ho hoff
  ·rw [show (B8 v).2 = v.2 from rfl] at hrest hcase hy
   rw [show (B8 v).1 = BP v.1 from rfl] at hrest
   have hyz : y.size ≤ 2000 := by rw [← hy]; exact Ps
   have hpz := Mr hv y
   rw [List.length_drop] at hi2
   have hge : ¬ (i : Int) < 0 := by omega
   rcases hrest with ⟨hr, _, ho2⟩ | ⟨hr, ho2⟩
   ·rw [hr] at hroot
    unfold GY at hroot
    by_cases hgr : (BP v.1 y).size ≤ 2000
    ·have hgi : ¬ (2000 : Int) < (BP v.1 y).size := by omega
     rw [if_pos hgr] at ho2
     repeat' (first | (with_reducible first | refine W ?_ | refine Z0 ?_ | ((first | refine Wo fun K hK => ?_ | refine Wp ?_ | refine Wq ?_ | refine Wr ?_); (try simp only [go_sem, fN, seval, eT, iR, x2, x4, x5, x6, x7, x8, x9, x10, s8, s11, t2, t4, t5, t6, t7, t15, hge, Ic, dT, dF, nL]); (repeat refine Ai ?_); (try (refine hK _ ?_; clear hK K)); try refine iC ?_)) | refine Cg _ (hroot) ?_)
     rw [GO]
     refine ⟨HJ _, _, _, (RH v.1 y hsur).toS (NP _ _), ?_⟩
     have hl2 : ((out ++ o2).map Ap).length = (out ++ o2).length := by simp
     have hat : ((out ++ o2).map Ap ++ [[SV.str ⟨#[]⟩, SV.list []]])[out.length + o2.length]? = some [SV.str ⟨#[]⟩, SV.list []] := by
      rw [List.getElem?_append_right (by simp)]
      simp
     repeat' (first | (with_reducible first | refine W ?_ | refine Z0 ?_ | ((first | refine Wo fun K hK => ?_ | refine Wp ?_ | refine Wq ?_ | refine Wr ?_); (try simp only [go_sem, fN, seval, eT, iR, x2, x4, x5, x6, x7, x8, x9, x10, s8, s11, t2, t4, t5, t6, t7, t15, hge, hgi, hl2, hat, dT, dF, nL]); (repeat refine Ai ?_); (try (refine hK _ ?_; clear hK K)); try refine iC ?_)) | refine Cg _ (Lu (BP v.1 y) (by omega)) ?_ | refine Cg _ (NZ (BP v.1 y) (by omega)) ?_)
     have hset : ((out ++ o2).map Ap ++ [[SV.str ⟨#[]⟩, SV.list []]]).set (out.length + o2.length) [.str (BP v.1 y).name, .list ((BP v.1 y).args.map Ap)] = (out ++ (o2 ++ [BP v.1 y])).map Ap := by
      rw [List.set_append_right _ _ (by simp)]
      simp [Aa]
     rw [hset]
     refine AO ⟨R.length - (i + 1), by omega, i + 1, o2 ++ [BP v.1 y], by omega, by simp only [List.length_append, List.length_singleton]; omega, rfl, ?_, ?_, ?_, ?_, ?_, ?_, ?_, ?_, ?_, ?_, rfl, IX (T := AG (EC S0 (out ++ (o2 ++ [BP v.1 y]))) 1501 (some b1)) (by decide) (BZ (hout _) (by decide) hb1) fun j hj => ?_⟩
     ·rw [hoff, ho2, List.drop_drop, show f + (i + 1 - f) = i + 1 by omega, Option.map_map]
      congr 1
      funext l
      simp
     ·simp only [go_sem, fN, seval, AS.drop, As, AC.clears, AC.clear, AC.highs, AC.high, Bool.not_false, Bool.true_and, Bool.and_self, AV.purge, AV.purges, AC.purge, AJ.purge, List.contains_cons, List.contains_nil, Nat.reduceBEq, Bool.or_self, Bool.or_false, Bool.false_or, Bool.or_true, eT, iR, x2]
     ·simp only [go_sem, fN, seval, AS.drop, As, AC.clears, AC.clear, AC.highs, AC.high, Bool.not_false, Bool.true_and, Bool.and_self, AV.purge, AV.purges, AC.purge, AJ.purge, List.contains_cons, List.contains_nil, Nat.reduceBEq, Bool.or_self, Bool.or_false, Bool.false_or, Bool.or_true, eT, iR, x4]
     ·simp only [go_sem, fN, seval, AS.drop, As, AC.clears, AC.clear, AC.highs, AC.high, Bool.not_false, Bool.true_and, Bool.and_self, AV.purge, AV.purges, AC.purge, AJ.purge, List.contains_cons, List.contains_nil, Nat.reduceBEq, Bool.or_self, Bool.or_false, Bool.false_or, Bool.or_true, eT, iR, x5]
     ·simp only [go_sem, fN, seval, AS.drop, As, AC.clears, AC.clear, AC.highs, AC.high, Bool.not_false, Bool.true_and, Bool.and_self, AV.purge, AV.purges, AC.purge, AJ.purge, List.contains_cons, List.contains_nil, Nat.reduceBEq, Bool.or_self, Bool.or_false, Bool.false_or, Bool.or_true, eT, iR, x6]
     ·simp only [go_sem, fN, seval, AS.drop, As, AC.clears, AC.clear, AC.highs, AC.high, Bool.not_false, Bool.true_and, Bool.and_self, AV.purge, AV.purges, AC.purge, AJ.purge, List.contains_cons, List.contains_nil, Nat.reduceBEq, Bool.or_self, Bool.or_false, Bool.false_or, Bool.or_true, eT, iR, x7]
     ·simp only [go_sem, fN, seval, AS.drop, As, AC.clears, AC.clear, AC.highs, AC.high, Bool.not_false, Bool.true_and, Bool.and_self, AV.purge, AV.purges, AC.purge, AJ.purge, List.contains_cons, List.contains_nil, Nat.reduceBEq, Bool.or_self, Bool.or_false, Bool.false_or, Bool.or_true, eT, iR, x8]
     ·simp only [go_sem, fN, seval, AS.drop, As, AC.clears, AC.clear, AC.highs, AC.high, Bool.not_false, Bool.true_and, Bool.and_self, AV.purge, AV.purges, AC.purge, AJ.purge, List.contains_cons, List.contains_nil, Nat.reduceBEq, Bool.or_self, Bool.or_false, Bool.false_or, Bool.or_true, eT, iR, x9]
     ·simp only [go_sem, fN, seval, AS.drop, As, AC.clears, AC.clear, AC.highs, AC.high, Bool.not_false, Bool.true_and, Bool.and_self, AV.purge, AV.purges, AC.purge, AJ.purge, List.contains_cons, List.contains_nil, Nat.reduceBEq, Bool.or_self, Bool.or_false, Bool.false_or, Bool.or_true, eT, iR, x10]
      congr 3
     ·simp only [go_sem, fN, seval, AS.drop, As, AC.clears, AC.clear, AC.highs, AC.high, Bool.not_false, Bool.true_and, Bool.and_self, AV.purge, AV.purges, AC.purge, AJ.purge, List.contains_cons, List.contains_nil, Nat.reduceBEq, Bool.or_self, Bool.or_false, Bool.false_or, Bool.or_true, eT, iR, s8]
     ·by_cases h1 : j = 1006
      ·subst h1
       show some _ = some _
       congr 4
       simp
       omega
      ·by_cases h2 : j = 1500
       ·subst h2
        rfl
       ·show AG (AG (AG (AG (AG (AG S1 11 _) 11 _) 11 _) 1500 _) 1500 _) 1006 _ j = _
        rw [AH _ h1, AH _ h2, AH _ h2, AH _ (by omega), AH _ (by omega), AH _ (by omega), hS j hj]
        by_cases h3 : j = 1501
        ·subst h3
         rw [AE, AE]
        ·rw [AH _ h3, AH _ h3, EZ h2 h1, EZ h2 h1]
    ·have hgi : (2000 : Int) < (BP v.1 y).size := by omega
     rw [if_neg hgr] at ho2
     repeat' (first | (with_reducible first | refine W ?_ | refine Z0 ?_ | ((first | refine Wo fun K hK => ?_ | refine Wp ?_ | refine Wq ?_ | refine Wr ?_); (try simp only [go_sem, fN, seval, eT, iR, x2, x4, x5, x6, x7, x8, x9, x10, s8, s11, t2, t4, t5, t6, t7, t15, hge, Ic, dT, dF, nL]); (repeat refine Ai ?_); (try (refine hK _ ?_; clear hK K)); try refine iC ?_)) | refine Cg _ (hroot) ?_)
     rw [GO]
     refine ⟨HJ _, _, _, (RH v.1 y hsur).toS (NP _ _), ?_⟩
     repeat' (first | (with_reducible first | refine W ?_ | refine Z0 ?_ | ((first | refine Wo fun K hK => ?_ | refine Wp ?_ | refine Wq ?_ | refine Wr ?_); (try simp only [go_sem, fN, seval, eT, iR, x2, x4, x5, x6, x7, x8, x9, x10, s8, s11, t2, t4, t5, t6, t7, t15, hge, hgi, dT, dF, nL]); (repeat refine Ai ?_); (try (refine hK _ ?_; clear hK K)); try refine iC ?_)) | refine Cg _ (Lu (BP v.1 y) (by omega)) ?_)
     rw [ho2, Option.map_none] at hoff
     rw [u501]
     refine KR ?_ (by decide) (by simp only [go_sem, fN, seval, eT, iR, t1501]) ⟨rfl, hbad hoff, ?_, ?_⟩
     ·repeat (first | exact hhi | refine KI ?_ (by decide) | refine Kb ?_ rfl)
     ·rw [L1 (by decide) (by decide)]
      simp only [go_sem, fN, seval, eT, iR]
     ·rw [L1 (by decide) (by decide)]
      simp only [go_sem, fN, seval, eT, iR]
   ·rw [hr] at hroot
    unfold GY at hroot
    all_goals
     repeat' (first | (with_reducible first | refine W ?_ | refine Z0 ?_ | ((first | refine Wo fun K hK => ?_ | refine Wp ?_ | refine Wq ?_ | refine Wr ?_); (try simp only [go_sem, fN, seval, eT, iR, x2, x4, x5, x6, x7, x8, x9, x10, s8, s11, t2, t4, t5, t6, t7, t15, hge, dT, dF, nL]); (repeat refine Ai ?_); (try (refine hK _ ?_; clear hK K)); try refine iC ?_)) | refine Cg _ (hroot) ?_)
     rw [ho2, Option.map_none] at hoff
     rw [u501]
     refine KR ?_ (by decide) (by simp only [go_sem, fN, seval, eT, iR, t1501]) ⟨rfl, hbad hoff, ?_, ?_⟩
     ·repeat (first | exact hhi | refine KI ?_ (by decide) | refine Kb ?_ rfl)
     ·rw [L1 (by decide) (by decide)]
      simp only [go_sem, fN, seval, eT, iR]
     ·rw [L1 (by decide) (by decide)]
      simp only [go_sem, fN, seval, eT, iR]
 ·rintro U ⟨out, ho, rfl⟩
  rw [ho]
  have hdn : dnS (EC S0 out) = AG (AG S0 500 (some (.mrow 27 2 (out.map Ap)))) 6 (some (.box 25 [.row 500 out.length])) := by
   show dnS (AG (AG (upS S0) (up1 500) _) (up1 6) _) = _
   rw [Lc, Lc, Lv]
   rfl
  rw [hdn]
  refine Wi ?_
  refine Wb ?_
  have hl : (out.map Ap).length = out.length := by simp
  refine IWP.ghost (Ac.share (id := 500) (e := 27) (wd := 2) (xs := out.map Ap) (by simp only [go_sem, fN, seval, eT, iR])) ?_
  unfold JO
  repeat' with_reducible first | refine W ?_ | refine Z0 ?_ | ((first | refine Wo fun K hK => ?_ | refine Wp ?_ | refine Wq ?_ | refine Wr ?_); (try simp only [go_sem, fN, seval, eT, iR, e2, e4, e5, e6, e7, s4, s5, hl, dT, dF, nL]); (repeat refine Ai ?_); (try (refine hK _ ?_; clear hK K)); try refine iC ?_)
  simp only [go_sem, fN, seval, AN, AS.result, AB, AD, AK, e4, e5, s4, s5, hl]
 ·rintro ex U ⟨rfl, ho, u4, u5⟩
  rw [ho]
  have d4 : dnS U 4 = some (.box 25 [.full []]) := FL (i := 1004) (by decide) u4
  have d5 : dnS U 5 = some (MD 8) := FL (i := 1005) (by decide) u5
  refine Wl ?_
  refine Wh ?_
  unfold JO
  simp only [go_sem, fN, seval, AN, AS.result, AB, AD, AK, e4, e5, d4, d5]
  rfl







def Hc (R : List Pr) (t : Tm) : List Tm × Int := match Do R t with
 | none => ([], 8)
 | some l => (l, 0)
def Eh (R : List Pr) (t : Tm) : List Tm × Int := if De R t = 0 then Hc R t else ([], De R t)
theorem O1 (R : List Pr) (t : Tm) : JO (Do R t) = .tup [Iq (Hc R t).1, AR (Hc R t).2] := by
 unfold Hc JO
 cases Do R t <;> rfl
theorem M0 (R : List Pr) (t : Tm) : AT Try.prog 7 [Fj R, aTm t] (.tup [Iq (Eh R t).1, AR (Eh R t).2]) := by
 unfold Eh
 refine G9.ac fun C hC => ?_
 unfold Du
 by_cases ha : De R t = 0
 ·rw [if_pos ha]
  obtain ⟨hR, hc, hz⟩ := Kw ha
  have hon := TR hR t hc (by omega)
  rw [O1] at hon
  repeat' (first | (with_reducible first | refine W ?_ | refine Z0 ?_ | ((first | refine Wo fun K hK => ?_ | refine Wp ?_ | refine Wq ?_ | refine Wr ?_); (try simp only [go_sem, fN, seval, eT, iR, ha, dT, dF, nL]); (repeat refine Ai ?_); (try (refine hK _ ?_; clear hK K)); try refine iC ?_)) | refine Cg _ (DB R t) ?_ | refine Cg _ (hon) ?_)
  simp only [go_sem, fN, seval, AN, AS.result, AB, AD, AK]
 ·rw [if_neg ha]
  repeat' (first | (with_reducible first | refine W ?_ | refine Z0 ?_ | ((first | refine Wo fun K hK => ?_ | refine Wp ?_ | refine Wq ?_ | refine Wr ?_); (try simp only [go_sem, fN, seval, eT, iR, ha, dT, dF, nL]); (repeat refine Ai ?_); (try (refine hK _ ?_; clear hK K)); try refine iC ?_)) | refine Cg _ (DB R t) ?_)
  simp only [go_sem, fN, seval, AN, AS.result, AB, AD, AK]
  rfl

def Kx : IR :=
 (.seq (.ops [.i 6 (.alloc 27 [.st (.str (ByteArray.mk (#[]))), .full []]), .i 7 (.mov (.n 0)), .i 8 (.mov (.n 0)), .i 9 (.mov (.n 0))]) (.seq (.ops [.m 16 1, .m 10 16]) (.seq (.block 0 (.loop (.seq (.seq (.ops [.m 17 1, .m 18 0, .i 19 (.len true (.t 18)), .i 20 (.bin .lss (.t 17) (.t 19)), .m 21 20, .mk (some 22) (some (21, true)) (.mov (.t 0)) .no, .mk (some 23) (some (21, true)) (.mov (.t 1)) .no, .mk (some 24) (some (21, true)) (.indexStr (.t 22) (.t 23)) .no, .mk (some 25) (some (21, true)) (.call 36 [.t 24]) .no, .i 26 (.pick (.t 21) (.t 25) (.c (.one (.st (.bool false)))))]) (.cond (.t 26) .skip (.exit 0))) (.block 1 (.ops [.m 27 1, .i 28 (.bin .add (.t 27) (.n 1)), .m 1 28]))))) (.seq (.seq (.ops [.m 29 1, .m 30 10, .i 31 (.bin .eql (.t 29) (.t 30))]) (.cond (.t 31) (.seq (.seq (.ops [.m 32 1, .m 33 0, .i 34 (.len true (.t 33)), .i 35 (.bin .eql (.t 32) (.t 34))]) (.cond (.t 35) (.seq (.ops [.i 36 (.build [.st (.str (ByteArray.mk (#[]))), .full []] []), .m 37 1, .m 38 2, .s 2 6 36, .m 7 37, .m 8 38, .i 9 (.mov (.n 13))]) .ret) .skip)) (.seq (.ops [.i 39 (.build [.st (.str (ByteArray.mk (#[]))), .full []] []), .m 40 1, .m 41 2, .s 2 6 39, .m 7 40, .m 8 41, .i 9 (.mov (.n 12))]) .ret)) .skip)) (.seq (.ops [.m 42 0, .m 43 10, .m 44 1, .i 45 (.sliceS (.t 42) (some (.t 43)) (some (.t 44))), .i 46 (.build [.st (.str (ByteArray.mk (#[]))), .full []] [(0, 1, .t 45)]), .i 11 (.alloc 27 [.st (.str (ByteArray.mk (#[]))), .full []]), .s 2 11 46]) (.seq (.seq (.ops [.f 47 0 11, .l 48 47, .i 49 (.call 37 [.t 48]), .i 50 (.un .not (.t 49))]) (.cond (.t 50) (.seq (.ops [.L 51 2 11, .m 52 1, .m 53 2, .s 2 6 51, .m 7 52, .m 8 53, .i 9 (.mov (.n 1))]) .ret) .skip)) (.seq (.ops [.m 54 2, .i 55 (.bin .add (.t 54) (.n 1)), .m 2 55]) (.seq (.seq (.ops [.m 56 2, .i 57 (.bin .gtr (.t 56) (.n 200))]) (.cond (.t 57) (.seq (.ops [.L 58 2 11, .m 59 1, .m 60 2, .s 2 6 58, .m 7 59, .m 8 60, .i 9 (.mov (.n 3))]) .ret) .skip)) (.seq (.seq (.ops [.m 61 1, .m 62 0, .i 63 (.len true (.t 62)), .i 64 (.bin .eql (.t 61) (.t 63)), .m 65 64, .mk (some 66) (some (65, false)) (.mov (.t 0)) .no, .mk (some 67) (some (65, false)) (.mov (.t 1)) .no, .mk (some 68) (some (65, false)) (.indexStr (.t 66) (.t 67)) .no, .mk (some 69) (some (65, false)) (.bin .neq (.t 68) (.c (.one (.st (.int .u8 40))))) .no, .i 70 (.pick (.t 65) (.c (.one (.st (.bool true)))) (.t 69))]) (.cond (.t 70) (.seq (.ops [.L 71 2 11, .m 72 1, .m 73 2, .s 2 6 71, .m 7 72, .m 8 73, .i 9 (.mov (.n 0))]) .ret) .skip)) (.seq (.seq (.ops [.f 74 0 11, .l 75 74, .i 76 (.call 38 [.t 75])]) (.cond (.t 76) (.seq (.ops [.L 77 2 11, .m 78 1, .m 79 2, .s 2 6 77, .m 7 78, .m 8 79, .i 9 (.mov (.n 2))]) .ret) .skip)) (.block 2 (.loop (.block 3 (.seq (.ops [.m 81 0, .m 82 1, .i 83 (.bin .add (.t 82) (.n 1)), .m 84 2, .i 85 (.call 23 [.t 81, .t 83, .t 84]), .m 80 85, .i 86 (.extract 0 (.t 80)), .i 87 (.extract 1 (.t 80)), .i 88 (.extract 2 (.t 80)), .i 89 (.extract 3 (.t 80)), .i 12 (.alloc 27 [.st (.str (ByteArray.mk (#[]))), .full []]), .s 2 12 86, .m 13 87, .m 14 88, .m 15 89]) (.seq (.seq (.ops [.m 90 15, .i 91 (.bin .neq (.t 90) (.n 0))]) (.cond (.t 91) (.seq (.ops [.L 92 2 11, .m 93 13, .m 94 14, .m 95 15, .s 2 6 92, .m 7 93, .m 8 94, .m 9 95]) .ret) .skip)) (.seq (.ops [.f 96 1 11, .l 97 96, .L 98 2 12, .i 99 (.buildSlice false 27 2 [.t 98]), .i 100 (.append false 27 2 40 (.t 97) (.t 99)), .f 101 1 11, .s 1 101 100]) (.seq (.ops [.m 102 13, .m 1 102]) (.seq (.ops [.m 103 14, .m 2 103]) (.seq (.seq (.ops [.m 104 1, .m 105 0, .i 106 (.len true (.t 105)), .i 107 (.bin .eql (.t 104) (.t 106))]) (.cond (.t 107) (.seq (.ops [.L 108 2 11, .m 109 1, .m 110 2, .s 2 6 108, .m 7 109, .m 8 110, .i 9 (.mov (.n 13))]) .ret) .skip)) (.seq (.seq (.ops [.m 111 0, .m 112 1, .i 113 (.indexStr (.t 111) (.t 112)), .i 114 (.bin .eql (.t 113) (.c (.one (.st (.int .u8 41)))))]) (.cond (.t 114) (.seq (.ops [.L 115 2 11, .m 116 1, .i 117 (.bin .add (.t 116) (.n 1)), .m 118 2, .s 2 6 115, .m 7 117, .m 8 118, .i 9 (.mov (.n 0))]) .ret) .skip)) (.seq (.ops [.m 119 0, .m 120 1, .i 121 (.indexStr (.t 119) (.t 120)), .i 122 (.bin .neq (.t 121) (.c (.one (.st (.int .u8 44)))))]) (.cond (.t 122) (.seq (.ops [.L 123 2 11, .m 124 1, .m 125 2, .s 2 6 123, .m 7 124, .m 8 125, .i 9 (.mov (.n 12))]) .ret) .skip))))))))))))))))))))))
theorem P5 : OkF Try.prog 23 126 [] Kx [.cell 6 true 2, .t 7, .t 8, .t 9] := .of Try.func23 rfl rfl (by kernel_rfl) rfl
def KF : IR :=
 (.seq (.ops [.i 2 (.alloc 27 [.st (.str (ByteArray.mk (#[]))), .full []]), .i 3 (.mov (.n 0))]) (.seq (.seq (.ops [.m 8 0, .i 9 (.len true (.t 8)), .i 10 (.bin .gtr (.t 9) (.n 4000))]) (.cond (.t 10) (.seq (.ops [.i 11 (.build [.st (.str (ByteArray.mk (#[]))), .full []] []), .s 2 2 11, .i 3 (.mov (.n 3))]) .ret) .skip)) (.seq (.ops [.m 13 0, .i 14 (.call 23 [.t 13, .n 0, .n 0]), .m 12 14, .i 15 (.extract 0 (.t 12)), .i 16 (.extract 1 (.t 12)), .i 17 (.extract 2 (.t 12)), .i 18 (.extract 3 (.t 12)), .i 4 (.alloc 27 [.st (.str (ByteArray.mk (#[]))), .full []]), .s 2 4 15, .m 5 16, .m 6 17, .m 7 18]) (.seq (.seq (.ops [.m 19 7, .i 20 (.bin .eql (.t 19) (.n 0)), .m 21 20, .mk (some 22) (some (21, true)) (.mov (.t 5)) .no, .mk (some 23) (some (21, true)) (.mov (.t 0)) .no, .mk (some 24) (some (21, true)) (.len true (.t 23)) .no, .mk (some 25) (some (21, true)) (.bin .lss (.t 22) (.t 24)) .no, .i 26 (.pick (.t 21) (.t 25) (.c (.one (.st (.bool false)))))]) (.cond (.t 26) (.ops [.i 7 (.mov (.n 12))]) .skip)) (.seq (.seq (.ops [.m 27 7, .i 28 (.bin .neq (.t 27) (.n 0))]) (.cond (.t 28) (.seq (.ops [.i 29 (.build [.st (.str (ByteArray.mk (#[]))), .full []] []), .m 30 7, .s 2 2 29, .m 3 30]) .ret) .skip)) (.seq (.ops [.L 31 2 4, .s 2 2 31, .i 3 (.mov (.n 0))]) .ret))))))
theorem QI : OkF Try.prog 15 32 [] KF [.cell 2 true 2, .t 3] := .of Try.func15 rfl rfl (by kernel_rfl) rfl

def J7 (s : ByteArray) (i : Nat) : ByteArray := s.extract i s.size
theorem PK (s : ByteArray) (i : Nat) : (J7 s i).size = s.size - i := by
 unfold J7
 rw [ByteArray.size_extract]
 omega
theorem tail_drop {s : ByteArray} {i n : Nat} (h : i + n ≤ s.size) : (J7 s i).extract n (J7 s i).size = J7 s (i + n) := by
 rw [PK]
 unfold J7
 rw [ByteArray.extract_extract]
 congr 1
 omega
def NN (s : ByteArray) : Nat → Nat → Nat
 | 0, i => i
 | k + 1, i => if A8 (Af s i) = true then NN s k (i + 1) else i
def AW (s : ByteArray) (i : Nat) : Nat := NN s (s.size - i) i
theorem Qw {s : ByteArray} {i : Nat} (h : i < s.size) (hl : A8 (Af s i) = true) : AW s i = AW s (i + 1) := by
 unfold AW
 obtain ⟨k, hk⟩ : ∃ k, s.size - i = k + 1 := ⟨s.size - i - 1, by omega⟩
 rw [hk, show s.size - (i + 1) = k by omega, NN, if_pos hl]
theorem NX {s : ByteArray} {i : Nat} (h : i < s.size) (hl : ¬ A8 (Af s i) = true) : AW s i = i := by
 unfold AW
 obtain ⟨k, hk⟩ : ∃ k, s.size - i = k + 1 := ⟨s.size - i - 1, by omega⟩
 rw [hk, NN, if_neg hl]
theorem PP {s : ByteArray} {i : Nat} (h : s.size ≤ i) : AW s i = i := by
 unfold AW
 rw [show s.size - i = 0 by omega]
 rfl
theorem Oa (s : ByteArray) : ∀ k i : Nat, i ≤ NN s k i ∧ NN s k i ≤ i + k
 | 0, i => ⟨Nat.le_refl _, Nat.le_refl _⟩
 | k + 1, i => by
  rw [NN]
  split
  ·have := Oa s k (i + 1)
   omega
  ·omega
theorem M8 {s : ByteArray} {i : Nat} (h : i ≤ s.size) : i ≤ AW s i ∧ AW s i ≤ s.size := by
 have := Oa s (s.size - i) i
 unfold AW
 omega
structure Rd where
 t : Tm
 i : Nat
 k : Nat
 e : Int
mutual
def rd (s : ByteArray) : Nat → Nat → Nat → Rd
 | 0, i, k => ⟨.mk ⟨#[]⟩ [], i, k, 99⟩
 | f + 1, i, k =>
  if AW s i = i then ⟨.mk ⟨#[]⟩ [], i, k, if i = s.size then 13 else 12⟩
  else if Aw (s.extract i (AW s i)) = true then
   if 200 < k + 1 then ⟨.mk (s.extract i (AW s i)) [], AW s i, k + 1, 3⟩
   else if AW s i = s.size ∨ Af s (AW s i) ≠ 40 then ⟨.mk (s.extract i (AW s i)) [], AW s i, k + 1, 0⟩
   else if AZ (s.extract i (AW s i)) = true then ⟨.mk (s.extract i (AW s i)) [], AW s i, k + 1, 2⟩
   else rdA s f (s.extract i (AW s i)) [] (AW s i) (k + 1)
  else ⟨.mk (s.extract i (AW s i)) [], AW s i, k, 1⟩
def rdA (s : ByteArray) : Nat → ByteArray → List Tm → Nat → Nat → Rd
 | 0, n, acc, i, k => ⟨.mk ⟨#[]⟩ [], i, k, 99⟩
 | f + 1, n, acc, i, k =>
  if (rd s f (i + 1) k).e = 0 then
   if (rd s f (i + 1) k).i = s.size then ⟨.mk n (acc ++ [(rd s f (i + 1) k).t]), (rd s f (i + 1) k).i, (rd s f (i + 1) k).k, 13⟩
   else if Af s (rd s f (i + 1) k).i = 41 then ⟨.mk n (acc ++ [(rd s f (i + 1) k).t]), (rd s f (i + 1) k).i + 1, (rd s f (i + 1) k).k, 0⟩
   else if Af s (rd s f (i + 1) k).i = 44 then rdA s f n (acc ++ [(rd s f (i + 1) k).t]) (rd s f (i + 1) k).i (rd s f (i + 1) k).k
   else ⟨.mk n (acc ++ [(rd s f (i + 1) k).t]), (rd s f (i + 1) k).i, (rd s f (i + 1) k).k, 12⟩
  else ⟨.mk n acc, (rd s f (i + 1) k).i, (rd s f (i + 1) k).k, (rd s f (i + 1) k).e⟩
end
structure Tv (s : ByteArray) (i k : Nat) (r : Rd) : Prop where
 le : i ≤ r.i
 in_ : r.i ≤ s.size
 knots : k ≤ r.k
 most : r.k ≤ 201
 ok : r.e = 0 → i < r.i ∧ r.k ≤ 200 ∧ k < r.k ∧ r.t.size ≤ r.k - k
 err : 0 ≤ r.e ∧ r.e ≤ 13
structure Tp (s : ByteArray) (acc : List Tm) (i k : Nat) (r : Rd) : Prop where
 le : i ≤ r.i
 in_ : r.i ≤ s.size
 knots : k ≤ r.k
 most : r.k ≤ 201
 ok : r.e = 0 → i < r.i ∧ r.k ≤ 200 ∧ k < r.k ∧ r.t.size ≤ (r.k - k) + (1 + Tm.sizes acc)
 err : 0 ≤ r.e ∧ r.e ≤ 13
theorem IT (xs : List Tm) (a : Tm) : Tm.sizes (xs ++ [a]) = Tm.sizes xs + a.size := by
 rw [Tm.sizes_append]
 simp [Tm.sizes]
mutual
theorem S8 (s : ByteArray) : ∀ f i k : Nat, i ≤ s.size → k ≤ 200 → 2 * (s.size - i) < f → Tv s i k (rd s f i k)
 | 0, i, k, _, _, h => absurd h (Nat.not_lt_zero _)
 | f + 1, i, k, hi, hk, hf => by
  obtain ⟨l1, l2⟩ := M8 hi
  rw [rd]
  by_cases h0 : AW s i = i
  ·rw [if_pos h0]
   by_cases h1 : i = s.size
   ·rw [if_pos h1]
    exact ⟨Nat.le_refl _, hi, Nat.le_refl _, by show k ≤ 201; omega, fun h => absurd h (by show ¬ (13 : Int) = 0; decide), by show (0 : Int) ≤ 13 ∧ (13 : Int) ≤ 13; decide⟩
   ·rw [if_neg h1]
    exact ⟨Nat.le_refl _, hi, Nat.le_refl _, by show k ≤ 201; omega, fun h => absurd h (by show ¬ (12 : Int) = 0; decide), by show (0 : Int) ≤ 12 ∧ (12 : Int) ≤ 13; decide⟩
  ·rw [if_neg h0]
   by_cases h1 : Aw (s.extract i (AW s i)) = true
   ·rw [if_pos h1]
    by_cases h2 : 200 < k + 1
    ·rw [if_pos h2]
     exact ⟨l1, l2, Nat.le_succ _, by show k + 1 ≤ 201; omega, fun h => absurd h (by show ¬ (3 : Int) = 0; decide), by show (0 : Int) ≤ 3 ∧ (3 : Int) ≤ 13; decide⟩
    ·rw [if_neg h2]
     by_cases h3 : AW s i = s.size ∨ Af s (AW s i) ≠ 40
     ·rw [if_pos h3]
      exact ⟨l1, l2, Nat.le_succ _, by show k + 1 ≤ 201; omega, fun _ => ⟨by show i < AW s i; omega, by show k + 1 ≤ 200; omega, Nat.lt_succ_self _, by show (Tm.mk _ []).size ≤ k + 1 - k; simp [Tm.size, Tm.sizes]⟩, by show (0 : Int) ≤ 0 ∧ (0 : Int) ≤ 13; decide⟩
     ·rw [if_neg h3]
      by_cases h4 : AZ (s.extract i (AW s i)) = true
      ·rw [if_pos h4]
       exact ⟨l1, l2, Nat.le_succ _, by show k + 1 ≤ 201; omega, fun h => absurd h (by show ¬ (2 : Int) = 0; decide), by show (0 : Int) ≤ 2 ∧ (2 : Int) ≤ 13; decide⟩
      ·rw [if_neg h4]
       have hlt : AW s i < s.size := by
        have : AW s i ≠ s.size := fun h => h3 (.inl h)
        omega
       have := RA s f (s.extract i (AW s i)) [] (AW s i) (k + 1) hlt (by omega) (by omega)
       refine ⟨Nat.le_trans l1 this.le, this.in_, by have := this.knots; omega, this.most, fun h => ?_, this.err⟩
       obtain ⟨q1, q2, q3, q4⟩ := this.ok h
       simp only [Tm.sizes] at q4
       exact ⟨by omega, q2, by omega, by omega⟩
   ·rw [if_neg h1]
    exact ⟨l1, l2, Nat.le_refl _, by show k ≤ 201; omega, fun h => absurd h (by show ¬ (1 : Int) = 0; decide), by show (0 : Int) ≤ 1 ∧ (1 : Int) ≤ 13; decide⟩
theorem RA (s : ByteArray) : ∀ (f : Nat) (n : ByteArray) (acc : List Tm) (i k : Nat), i < s.size → k ≤ 200 → 2 * (s.size - i) ≤ f → Tp s acc i k (rdA s f n acc i k)
 | 0, n, acc, i, k, hi, _, h => by omega
 | f + 1, n, acc, i, k, hi, hk, hf => by
  have h := S8 s f (i + 1) k (by omega) hk (by omega)
  have hle := h.le
  have hin := h.in_
  have hkn := h.knots
  have hmo := h.most
  rw [rdA]
  generalize rd s f (i + 1) k = r at *
  by_cases h0 : r.e = 0
  ·obtain ⟨o1, o2, o3, o4⟩ := h.ok h0
   rw [if_pos h0]
   by_cases h1 : r.i = s.size
   ·rw [if_pos h1]
    exact ⟨by show i ≤ r.i; omega, hin, hkn, hmo, fun h => absurd h (by show ¬ (13 : Int) = 0; decide), by show (0 : Int) ≤ 13 ∧ (13 : Int) ≤ 13; decide⟩
   ·rw [if_neg h1]
    by_cases h2 : Af s r.i = 41
    ·rw [if_pos h2]
     refine ⟨by show i ≤ r.i + 1; omega, by show r.i + 1 ≤ s.size; omega, hkn, hmo, fun _ => ⟨by show i < r.i + 1; omega, o2, o3, ?_⟩, by show (0 : Int) ≤ 0 ∧ (0 : Int) ≤ 13; decide⟩
     show 1 + Tm.sizes (acc ++ [r.t]) ≤ _
     rw [IT]
     show _ ≤ r.k - k + _
     omega
    ·rw [if_neg h2]
     by_cases h3 : Af s r.i = 44
     ·rw [if_pos h3]
      have := RA s f n (acc ++ [r.t]) r.i r.k (by omega) o2 (by omega)
      refine ⟨by have := this.le; omega, this.in_, by have := this.knots; omega, this.most, fun h => ?_, this.err⟩
      obtain ⟨q1, q2, q3, q4⟩ := this.ok h
      rw [IT] at q4
      exact ⟨by omega, q2, by omega, by omega⟩
     ·rw [if_neg h3]
      exact ⟨by show i ≤ r.i; omega, hin, hkn, hmo, fun h => absurd h (by show ¬ (12 : Int) = 0; decide), by show (0 : Int) ≤ 12 ∧ (12 : Int) ≤ 13; decide⟩
  ·rw [if_neg h0]
   exact ⟨by show i ≤ r.i; omega, hin, hkn, hmo, fun h => absurd h h0, h.err⟩
end
def rdS (s : ByteArray) : Rd := rd s (2 * s.size + 1) 0 0
def FM (s : ByteArray) : Tm × Int := if 4000 < s.size then (.mk ⟨#[]⟩ [], 3) else if (rdS s).e = 0 then (if (rdS s).i < s.size then (.mk ⟨#[]⟩ [], 12) else ((rdS s).t, 0)) else (.mk ⟨#[]⟩ [], (rdS s).e)

theorem IWP.cut {P : Program} {C : Ctx} {mu : List Nat} {Q : AX → AS → Prop} {s : AS} {x : IR} (id : Nat) (M : AS → Prop) (h1 : IWP P C mu x (fun e s => e = .exit id ∧ M s) s) (h2 : ∀ s, M s → Q (.exit id) s) : IWP P C mu x Q s :=
 h1.mono fun e s h => by
  obtain ⟨rfl, hm⟩ := h
  exact h2 s hm
abbrev NS : AJ := .box 27 [.st (.str ⟨#[]⟩), .full []]
def rdV (r : Rd) : AV := .tup [aTm r.t, AR r.i, AR r.k, AR r.e]
theorem SQ {s : ByteArray} {f i k : Nat} (h0 : AW s i = i) : rd s (f + 1) i k = ⟨.mk ⟨#[]⟩ [], i, k, if i = s.size then 13 else 12⟩ := by rw [rd, if_pos h0]
theorem Sb {s : ByteArray} {f i k : Nat} (h0 : ¬ AW s i = i) (h1 : ¬ Aw (s.extract i (AW s i)) = true) : rd s (f + 1) i k = ⟨.mk (s.extract i (AW s i)) [], AW s i, k, 1⟩ := by rw [rd, if_neg h0, if_neg h1]
theorem RM {s : ByteArray} {f i k : Nat} (h0 : ¬ AW s i = i) (h1 : Aw (s.extract i (AW s i)) = true) (h2 : 200 < k + 1) : rd s (f + 1) i k = ⟨.mk (s.extract i (AW s i)) [], AW s i, k + 1, 3⟩ := by rw [rd, if_neg h0, if_pos h1, if_pos h2]
theorem Ox {s : ByteArray} {f i k : Nat} (h0 : ¬ AW s i = i) (h1 : Aw (s.extract i (AW s i)) = true) (h2 : ¬ 200 < k + 1) (h3 : AW s i = s.size ∨ Af s (AW s i) ≠ 40) : rd s (f + 1) i k = ⟨.mk (s.extract i (AW s i)) [], AW s i, k + 1, 0⟩ := by rw [rd, if_neg h0, if_pos h1, if_neg h2, if_pos h3]
theorem SX {s : ByteArray} {f i k : Nat} (h0 : ¬ AW s i = i) (h1 : Aw (s.extract i (AW s i)) = true) (h2 : ¬ 200 < k + 1) (h3 : ¬ (AW s i = s.size ∨ Af s (AW s i) ≠ 40)) (h4 : AZ (s.extract i (AW s i)) = true) : rd s (f + 1) i k = ⟨.mk (s.extract i (AW s i)) [], AW s i, k + 1, 2⟩ := by rw [rd, if_neg h0, if_pos h1, if_neg h2, if_neg h3, if_pos h4]
theorem R8 {s : ByteArray} {f i k : Nat} (h0 : ¬ AW s i = i) (h1 : Aw (s.extract i (AW s i)) = true) (h2 : ¬ 200 < k + 1) (h3 : ¬ (AW s i = s.size ∨ Af s (AW s i) ≠ 40)) (h4 : ¬ AZ (s.extract i (AW s i)) = true) : rd s (f + 1) i k = rdA s f (s.extract i (AW s i)) [] (AW s i) (k + 1) := by rw [rd, if_neg h0, if_pos h1, if_neg h2, if_neg h3, if_neg h4]
theorem SD {s : ByteArray} {f : Nat} {n : ByteArray} {acc : List Tm} {i k : Nat} (h : ¬ (rd s f (i + 1) k).e = 0) : rdA s (f + 1) n acc i k = ⟨.mk n acc, (rd s f (i + 1) k).i, (rd s f (i + 1) k).k, (rd s f (i + 1) k).e⟩ := by rw [rdA, if_neg h]
theorem PN {s : ByteArray} {f : Nat} {n : ByteArray} {acc : List Tm} {i k : Nat} (h : (rd s f (i + 1) k).e = 0) (h1 : (rd s f (i + 1) k).i = s.size) : rdA s (f + 1) n acc i k = ⟨.mk n (acc ++ [(rd s f (i + 1) k).t]), (rd s f (i + 1) k).i, (rd s f (i + 1) k).k, 13⟩ := by rw [rdA, if_pos h, if_pos h1]
theorem O6 {s : ByteArray} {f : Nat} {n : ByteArray} {acc : List Tm} {i k : Nat} (h : (rd s f (i + 1) k).e = 0) (h1 : ¬ (rd s f (i + 1) k).i = s.size) (h2 : Af s (rd s f (i + 1) k).i = 41) : rdA s (f + 1) n acc i k = ⟨.mk n (acc ++ [(rd s f (i + 1) k).t]), (rd s f (i + 1) k).i + 1, (rd s f (i + 1) k).k, 0⟩ := by rw [rdA, if_pos h, if_neg h1, if_pos h2]
theorem TW {s : ByteArray} {f : Nat} {n : ByteArray} {acc : List Tm} {i k : Nat} (h : (rd s f (i + 1) k).e = 0) (h1 : ¬ (rd s f (i + 1) k).i = s.size) (h2 : ¬ Af s (rd s f (i + 1) k).i = 41) (h3 : Af s (rd s f (i + 1) k).i = 44) : rdA s (f + 1) n acc i k = rdA s f n (acc ++ [(rd s f (i + 1) k).t]) (rd s f (i + 1) k).i (rd s f (i + 1) k).k := by rw [rdA, if_pos h, if_neg h1, if_neg h2, if_pos h3]
theorem Qh {s : ByteArray} {f : Nat} {n : ByteArray} {acc : List Tm} {i k : Nat} (h : (rd s f (i + 1) k).e = 0) (h1 : ¬ (rd s f (i + 1) k).i = s.size) (h2 : ¬ Af s (rd s f (i + 1) k).i = 41) (h3 : ¬ Af s (rd s f (i + 1) k).i = 44) : rdA s (f + 1) n acc i k = ⟨.mk n (acc ++ [(rd s f (i + 1) k).t]), (rd s f (i + 1) k).i, (rd s f (i + 1) k).k, 12⟩ := by rw [rdA, if_pos h, if_neg h1, if_neg h2, if_neg h3]
theorem FS (acc : List Tm) (a : Tm) : (acc ++ [a]).map Ap = acc.map Ap ++ [[.str a.name, .list (a.args.map Ap)]] := by
 rw [List.map_append, List.map_cons, List.map_nil, Aa a]
theorem TU (s : ByteArray) (hs : s.size ≤ 100000) : ∀ f i k : Nat, i ≤ s.size → k ≤ 200 → 2 * (s.size - i) < f → AT Try.prog 23 [Cb s, AR i, AR k] (rdV (rd s f i k)) := by
 intro f
 induction f using Nat.strongRecOn with
 | _ f ih =>
 intro i k hi hk hf
 obtain ⟨f, rfl⟩ : ∃ g, f = g + 1 := ⟨f - 1, by omega⟩
 obtain ⟨l1, l2⟩ := M8 hi
 refine P5.ac fun C hC => ?_
 unfold Kx
 repeat' with_reducible first | refine W ?_ | refine Z0 ?_ | ((first | refine Wo fun K hK => ?_ | refine Wp ?_ | refine Wq ?_ | refine Wr ?_); (try simp only [go_sem, fN, seval, eT, iR, dT, dF, nL]); (repeat refine Ai ?_); (try (refine hK _ ?_; clear hK K)); try refine iC ?_)
 refine IWP.cut 0 (fun x => x.env 0 = Cb s ∧ x.env 1 = AR (AW s i) ∧ x.env 2 = AR k ∧ x.env 10 = AR i ∧ x.env 6 = .one (.ptr 6 1 0 0) ∧ x.S 6 = some NS ∧ x.S 11 = none ∧ x.S 12 = none ∧ x.S 900 = none) ?_ ?_
 ·refine IWP.loop (fun m x => ∃ j, i ≤ j ∧ j ≤ s.size ∧ m = s.size - j ∧ AW s i = AW s j ∧ x.env 0 = Cb s ∧ x.env 1 = AR j ∧ x.env 2 = AR k ∧ x.env 10 = AR i ∧ x.env 6 = .one (.ptr 6 1 0 0) ∧ x.S 6 = some NS ∧ x.S 11 = none ∧ x.S 12 = none ∧ x.S 900 = none) (s.size - i) ⟨i, Nat.le_refl _, hi, rfl, rfl, rfl, rfl, rfl, rfl, rfl, rfl, rfl, rfl, rfl⟩ ?_
  rintro m ⟨env, S⟩ ⟨j, hij, hj, rfl, hl, e0, e1, e2, e10, e6, s6, s11, s12, s900⟩
  simp only at e0 e1 e2 e10 e6 s6 s11 s12 s900
  by_cases hlt : (j : Int) < s.size
  ·have hb := Ef s j
   by_cases hlet : A8 (El s j) = true
   ·repeat' (first | (with_reducible first | refine W ?_ | refine Z0 ?_ | ((first | refine Wo fun K hK => ?_ | refine Wp ?_ | refine Wq ?_ | refine Wr ?_); (try simp only [go_sem, fN, seval, eT, iR, e0, e1, e2, e10, e6, s6, hlt, hlet, dT, dF, nL]); (repeat refine Ai ?_); (try (refine hK _ ?_; clear hK K)); try refine iC ?_)) | refine Cg _ (GD (El s j) hb.1) ?_)
    refine AO ⟨s.size - (j + 1), by omega, j + 1, by omega, by omega, rfl, ?_, ?_⟩
    ·rw [hl]
     exact Qw (by omega) hlet
    ·simp only [go_sem, fN, seval, eT, iR, e0, e1, e2, e10, e6, s6, s11, s12, s900]
     congr 3
   ·have hst : AW s j = j := NX (by omega) hlet
    repeat' (first | (with_reducible first | refine W ?_ | refine Z0 ?_ | ((first | refine Wo fun K hK => ?_ | refine Wp ?_ | refine Wq ?_ | refine Wr ?_); (try simp only [go_sem, fN, seval, eT, iR, e0, e1, e2, e10, e6, s6, hlt, hlet, dT, dF, nL]); (repeat refine Ai ?_); (try (refine hK _ ?_; clear hK K)); try refine iC ?_)) | refine Cg _ (GD (El s j) hb.1) ?_)
    refine ⟨rfl, ?_⟩
    simp only [go_sem, fN, seval, eT, iR, e0, e1, e2, e10, e6, s6, s11, s12, s900]
    rw [hl, hst]
  ·have hst : AW s j = j := PP (by omega)
   repeat' with_reducible first | refine W ?_ | refine Z0 ?_ | ((first | refine Wo fun K hK => ?_ | refine Wp ?_ | refine Wq ?_ | refine Wr ?_); (try simp only [go_sem, fN, seval, eT, iR, e0, e1, e2, e10, e6, s6, hlt, dT, dF, nL]); (repeat refine Ai ?_); (try (refine hK _ ?_; clear hK K)); try refine iC ?_)
   refine ⟨rfl, ?_⟩
   simp only [go_sem, fN, seval, eT, iR, e0, e1, e2, e10, e6, s6, s11, s12, s900]
   rw [hl, hst]
 rintro ⟨env, S⟩ ⟨e0, e1, e2, e10, e6, s6, s11, s12, s900⟩
 simp only at e0 e1 e2 e10 e6 s6 s11 s12 s900
 by_cases h0 : AW s i = i
 ·rw [SQ h0]
  rw [h0] at e1
  unfold rdV
  by_cases hsz : i = s.size
  ·have hszi : (i : Int) = s.size := by omega
   rw [if_pos hsz]
   repeat' with_reducible first | refine W ?_ | refine Z0 ?_ | ((first | refine Wo fun K hK => ?_ | refine Wp ?_ | refine Wq ?_ | refine Wr ?_); (try simp only [go_sem, fN, seval, eT, iR, e0, e1, e2, e10, e6, s6, hszi, dT, dF, nL]); (repeat refine Ai ?_); (try (refine hK _ ?_; clear hK K)); try refine iC ?_)
   simp only [go_sem, fN, seval, AN, AS.result, AB, AD, AK, e6, s6]
   rfl
  ·have hszi : ¬ (i : Int) = s.size := by omega
   rw [if_neg hsz]
   repeat' with_reducible first | refine W ?_ | refine Z0 ?_ | ((first | refine Wo fun K hK => ?_ | refine Wp ?_ | refine Wq ?_ | refine Wr ?_); (try simp only [go_sem, fN, seval, eT, iR, e0, e1, e2, e10, e6, s6, hszi, dT, dF, nL]); (repeat refine Ai ?_); (try (refine hK _ ?_; clear hK K)); try refine iC ?_)
   simp only [go_sem, fN, seval, AN, AS.result, AB, AD, AK, e6, s6]
   rfl
 have h0i : ¬ ((AW s i : Nat) : Int) = i := by omega
 by_cases h1 : Aw (s.extract i (AW s i)) = true
 case neg =>
  rw [Sb h0 h1]
  unfold rdV
  repeat' (first | (with_reducible first | refine W ?_ | refine Z0 ?_ | ((first | refine Wo fun K hK => ?_ | refine Wp ?_ | refine Wq ?_ | refine Wr ?_); (try simp only [go_sem, fN, seval, eT, iR, e0, e1, e2, e10, e6, s6, s11, h0i, h1, dT, dF, nL]); (repeat refine Ai ?_); (try (refine hK _ ?_; clear hK K)); try refine iC ?_)) | refine Cg _ (D2 (s.extract i (AW s i))) ?_)
  simp only [go_sem, fN, seval, AN, AS.result, AB, AD, AK, e6, s6]
  rfl
 case pos =>
 by_cases h2 : 200 < k + 1
 ·have h2i : (200 : Int) < k + 1 := by omega
  rw [RM h0 h1 h2]
  unfold rdV
  repeat' (first | (with_reducible first | refine W ?_ | refine Z0 ?_ | ((first | refine Wo fun K hK => ?_ | refine Wp ?_ | refine Wq ?_ | refine Wr ?_); (try simp only [go_sem, fN, seval, eT, iR, e0, e1, e2, e10, e6, s6, s11, h0i, h1, h2i, dT, dF, nL]); (repeat refine Ai ?_); (try (refine hK _ ?_; clear hK K)); try refine iC ?_)) | refine Cg _ (D2 (s.extract i (AW s i))) ?_)
  simp only [go_sem, fN, seval, AN, AS.result, AB, AD, AK, e6, s6]
  rfl
 have h2i : ¬ (200 : Int) < k + 1 := by omega
 by_cases h3 : AW s i = s.size
 ·have h3i : ((AW s i : Nat) : Int) = s.size := by omega
  have h0s : ¬ (s.size : Int) = i := by omega
  rw [Ox h0 h1 h2 (.inl h3)]
  unfold rdV
  rw [h3] at h1 e1
  rw [h3]
  repeat' (first | (with_reducible first | refine W ?_ | refine Z0 ?_ | ((first | refine Wo fun K hK => ?_ | refine Wp ?_ | refine Wq ?_ | refine Wr ?_); (try simp only [go_sem, fN, seval, eT, iR, e0, e1, e2, e10, e6, s6, s11, h0s, h1, h2i, dT, dF, nL]); (repeat refine Ai ?_); (try (refine hK _ ?_; clear hK K)); try refine iC ?_)) | refine Cg _ (D2 (s.extract i s.size)) ?_)
  simp only [go_sem, fN, seval, AN, AS.result, AB, AD, AK, e6, s6]
  rfl
 have h3i : ¬ ((AW s i : Nat) : Int) = s.size := by omega
 by_cases h3' : El s (AW s i) = 40
 case neg =>
  rw [Ox h0 h1 h2 (.inr h3')]
  unfold rdV
  repeat' (first | (with_reducible first | refine W ?_ | refine Z0 ?_ | ((first | refine Wo fun K hK => ?_ | refine Wp ?_ | refine Wq ?_ | refine Wr ?_); (try simp only [go_sem, fN, seval, eT, iR, e0, e1, e2, e10, e6, s6, s11, h0i, h1, h2i, h3i, h3', dT, dF, nL]); (repeat refine Ai ?_); (try (refine hK _ ?_; clear hK K)); try refine iC ?_)) | refine Cg _ (D2 (s.extract i (AW s i))) ?_)
  simp only [go_sem, fN, seval, AN, AS.result, AB, AD, AK, e6, s6]
  rfl
 case pos =>
 have h3n : ¬ (AW s i = s.size ∨ Af s (AW s i) ≠ 40) := fun h => h.elim h3 (fun h => h h3')
 by_cases h4 : AZ (s.extract i (AW s i)) = true
 ·rw [SX h0 h1 h2 h3n h4]
  unfold rdV
  repeat' (first | (with_reducible first | refine W ?_ | refine Z0 ?_ | ((first | refine Wo fun K hK => ?_ | refine Wp ?_ | refine Wq ?_ | refine Wr ?_); (try simp only [go_sem, fN, seval, eT, iR, e0, e1, e2, e10, e6, s6, s11, h0i, h1, h2i, h3i, h3', h4, dT, dF, nL]); (repeat refine Ai ?_); (try (refine hK _ ?_; clear hK K)); try refine iC ?_)) | refine Cg _ (D2 (s.extract i (AW s i))) ?_ | refine Cg _ (OT (s.extract i (AW s i))) ?_)
  simp only [go_sem, fN, seval, AN, AS.result, AB, AD, AK, e6, s6]
  rfl
 rw [R8 h0 h1 h2 h3n h4]
 have hlt0 : AW s i < s.size := by omega
 have hf0 : 2 * (s.size - AW s i) ≤ f := by omega
 clear h0
 obtain ⟨n, hn⟩ : ∃ n, s.extract i (AW s i) = n := ⟨_, rfl⟩
 rw [hn] at h1 h4 ⊢
 generalize AW s i = to at *
 repeat' (first | (with_reducible first | refine W ?_ | refine Z0 ?_ | ((first | refine Wo fun K hK => ?_ | refine Wp ?_ | refine Wq ?_ | refine Wr ?_); (try simp only [go_sem, fN, seval, eT, iR, e0, e1, e2, e10, e6, s6, s11, h0i, h1, h2i, h3i, h3', h4, hn, dT, dF, nL]); (repeat refine Ai ?_); (try (refine hK _ ?_; clear hK K)); try refine iC ?_)) | refine Cg _ (D2 n) ?_ | refine Cg _ (OT n) ?_)
 refine IWP.ghost (Ac.ownC 11 1 900 27 2 (xs := ([] : List Tm).map Ap) rfl rfl (by simp only [go_sem, fN, seval, eT, iR, s900, s11]) HR) ?_
 refine IWP.loopD [12] (fun m x => ∃ (g : Nat) (acc : List Tm) (j c : Nat), rdA s f n [] to (k + 1) = rdA s g n acc j c ∧ m = s.size - j ∧ 2 * (s.size - j) ≤ g ∧ g ≤ f ∧ j < s.size ∧ c ≤ 200 ∧ acc.length ≤ c ∧ x.env 0 = Cb s ∧ x.env 1 = AR j ∧ x.env 2 = AR c ∧ x.env 6 = .one (.ptr 6 1 0 0) ∧ x.env 11 = .one (.ptr 11 1 0 0) ∧ x.S 6 = some NS ∧ x.S 11 = some (.box 27 [.st (.str n), .row 900 acc.length]) ∧ x.S 900 = some (.arow 27 2 (acc.map Ap)) ∧ x.S 12 = none)
  (s.size - to) ⟨f, [], to, k + 1, rfl, rfl, hf0, Nat.le_refl _, hlt0, by omega, by simp, ?_⟩ ?_
 ·simp only [go_sem, fN, seval, eT, iR, e0, e1, e2, e10, e6, s6, s11, s12, s900]
  exact ⟨by congr 3, rfl⟩
 rintro m ⟨env, S⟩ ⟨g, acc, j, c, hrd, rfl, hg, hgf, hj, hc, hac, e0, e1, e2, e6, e11, s6, s11, s900, s12⟩
 simp only at e0 e1 e2 e6 e11 s6 s11 s900 s12
 rw [hrd]
 obtain ⟨g, rfl⟩ : ∃ g', g = g' + 1 := ⟨g - 1, by omega⟩
 have hcall := ih g (by omega) (j + 1) c (by omega) hc (by omega)
 have hok := S8 s g (j + 1) c (by omega) hc (by omega)
 rw [show ((j + 1 : Nat) : Int) = (j : Int) + 1 by omega] at hcall
 have hle := hok.le
 have hin := hok.in_
 have hal : (acc.map Ap).length = acc.length := List.length_map _
 by_cases q0 : (rd s g (j + 1) c).e = 0
 case neg =>
  rw [SD q0]
  unfold rdV at hcall ⊢
  repeat' (first | (with_reducible first | refine W ?_ | refine Z0 ?_ | ((first | refine Wo fun K hK => ?_ | refine Wp ?_ | refine Wq ?_ | refine Wr ?_); (try simp only [go_sem, fN, seval, eT, iR, e0, e1, e2, e6, e11, s6, s11, s900, s12, q0, dT, dF, nL]); (repeat refine Ai ?_); (try (refine hK _ ?_; clear hK K)); try refine iC ?_)) | refine Cg _ (hcall) ?_)
  simp only [go_sem, fN, seval, AN, AS.result, AB, AD, AK, e6, s6, s11, s900]
  rfl
 case pos =>
 obtain ⟨o1, o2, o3, o4⟩ := hok.ok q0
 by_cases q1 : (rd s g (j + 1) c).i = s.size
 ·have q1i : (((rd s g (j + 1) c).i : Nat) : Int) = s.size := by omega
  rw [PN q0 q1]
  unfold rdV at hcall ⊢
  repeat' (first | (with_reducible first | refine W ?_ | refine Z0 ?_ | ((first | refine Wo fun K hK => ?_ | refine Wp ?_ | refine Wq ?_ | refine Wr ?_); (try simp only [go_sem, fN, seval, eT, iR, e0, e1, e2, e6, e11, s6, s11, s900, s12, q0, q1i, dT, dF, nL]); (repeat refine Ai ?_); (try (refine hK _ ?_; clear hK K)); try refine iC ?_)) | refine Cg _ (hcall) ?_)
  simp only [go_sem, fN, seval, AN, AS.result, AB, AD, AK, e6, s6, s11, s900]
  rw [← FS]
  rfl
 have q1i : ¬ (((rd s g (j + 1) c).i : Nat) : Int) = s.size := by omega
 by_cases q2 : El s (rd s g (j + 1) c).i = 41
 ·rw [O6 q0 q1 q2]
  unfold rdV at hcall ⊢
  repeat' (first | (with_reducible first | refine W ?_ | refine Z0 ?_ | ((first | refine Wo fun K hK => ?_ | refine Wp ?_ | refine Wq ?_ | refine Wr ?_); (try simp only [go_sem, fN, seval, eT, iR, e0, e1, e2, e6, e11, s6, s11, s900, s12, q0, q1i, q2, dT, dF, nL]); (repeat refine Ai ?_); (try (refine hK _ ?_; clear hK K)); try refine iC ?_)) | refine Cg _ (hcall) ?_)
  simp only [go_sem, fN, seval, AN, AS.result, AB, AD, AK, e6, s6, s11, s900]
  rw [← FS]
  rfl
 by_cases q3 : El s (rd s g (j + 1) c).i = 44
 ·rw [TW q0 q1 q2 q3]
  unfold rdV at hcall
  repeat' (first | (with_reducible first | refine W ?_ | refine Z0 ?_ | ((first | refine Wo fun K hK => ?_ | refine Wp ?_ | refine Wq ?_ | refine Wr ?_); (try simp only [go_sem, fN, seval, eT, iR, e0, e1, e2, e6, e11, s6, s11, s900, s12, q0, q1i, q2, q3, dT, dF, nL]); (repeat refine Ai ?_); (try (refine hK _ ?_; clear hK K)); try refine iC ?_)) | refine Cg _ (hcall) ?_)
  refine AO ⟨s.size - (rd s g (j + 1) c).i, by omega, g, acc ++ [(rd s g (j + 1) c).t], (rd s g (j + 1) c).i, (rd s g (j + 1) c).k, rfl, rfl, by omega, by omega, by omega, o2, by simp; omega, ?_⟩
  simp only [go_sem, fN, seval, AS.drop, As, AC.clears, AC.clear, AC.highs, AC.high, Bool.not_false, Bool.true_and, Bool.and_self, AV.purge, AV.purges, AC.purge, AJ.purge, List.contains_cons, List.contains_nil, Nat.reduceBEq, Bool.or_self, Bool.or_false, Bool.false_or, Bool.or_true, eT, iR, e0, e1, e2, e6, e11, s6, s11, s900, s12]
  rw [FS]
 ·rw [Qh q0 q1 q2 q3]
  unfold rdV at hcall ⊢
  repeat' (first | (with_reducible first | refine W ?_ | refine Z0 ?_ | ((first | refine Wo fun K hK => ?_ | refine Wp ?_ | refine Wq ?_ | refine Wr ?_); (try simp only [go_sem, fN, seval, eT, iR, e0, e1, e2, e6, e11, s6, s11, s900, s12, q0, q1i, q2, q3, dT, dF, nL]); (repeat refine Ai ?_); (try (refine hK _ ?_; clear hK K)); try refine iC ?_)) | refine Cg _ (hcall) ?_)
  simp only [go_sem, fN, seval, AN, AS.result, AB, AD, AK, e6, s6, s11, s900]
  rw [← FS]
  rfl
def Ky (r : Tm × Int) : AV := .tup [aTm r.1, AR r.2]
theorem Oo (s : ByteArray) : AT Try.prog 15 [Cb s] (Ky (FM s)) := by
 have hro : FM s = if 4000 < s.size then (.mk ⟨#[]⟩ [], 3) else if (rdS s).e = 0 then (if (rdS s).i < s.size then (.mk ⟨#[]⟩ [], 12) else ((rdS s).t, 0)) else (.mk ⟨#[]⟩ [], (rdS s).e) := rfl
 refine QI.ac fun C hC => ?_
 unfold KF
 by_cases h0 : (4000 : Int) < s.size
 ·rw [hro, if_pos (by omega)]
  unfold Ky
  repeat' with_reducible first | refine W ?_ | refine Z0 ?_ | ((first | refine Wo fun K hK => ?_ | refine Wp ?_ | refine Wq ?_ | refine Wr ?_); (try simp only [go_sem, fN, seval, eT, iR, h0, dT, dF, nL]); (repeat refine Ai ?_); (try (refine hK _ ?_; clear hK K)); try refine iC ?_)
  simp only [go_sem, fN, seval, AN, AS.result, AB, AD, AK]
  rfl
 rw [hro, if_neg (by omega)]
 have hcall := TU s (by omega) (2 * s.size + 1) 0 0 (by omega) (by omega) (by omega)
 have hr : rd s (2 * s.size + 1) 0 0 = rdS s := rfl
 rw [hr] at hcall
 unfold rdV at hcall
 by_cases h1 : (rdS s).e = 0
 ·rw [if_pos h1]
  by_cases h2 : (rdS s).i < s.size
  ·have h2i : ((rdS s).i : Int) < s.size := by omega
   rw [if_pos h2]
   unfold Ky
   repeat' (first | (with_reducible first | refine W ?_ | refine Z0 ?_ | ((first | refine Wo fun K hK => ?_ | refine Wp ?_ | refine Wq ?_ | refine Wr ?_); (try simp only [go_sem, fN, seval, eT, iR, h0, h1, h2i, dT, dF, nL]); (repeat refine Ai ?_); (try (refine hK _ ?_; clear hK K)); try refine iC ?_)) | refine Cg _ (hcall) ?_)
   simp only [go_sem, fN, seval, AN, AS.result, AB, AD, AK]
   rfl
  ·have h2i : ¬ ((rdS s).i : Int) < s.size := by omega
   rw [if_neg h2]
   unfold Ky
   repeat' (first | (with_reducible first | refine W ?_ | refine Z0 ?_ | ((first | refine Wo fun K hK => ?_ | refine Wp ?_ | refine Wq ?_ | refine Wr ?_); (try simp only [go_sem, fN, seval, eT, iR, h0, h1, h2i, dT, dF, nL]); (repeat refine Ai ?_); (try (refine hK _ ?_; clear hK K)); try refine iC ?_)) | refine Cg _ (hcall) ?_)
   simp only [go_sem, fN, seval, AN, AS.result, AB, AD, AK]
 ·rw [if_neg h1]
  unfold Ky
  repeat' (first | (with_reducible first | refine W ?_ | refine Z0 ?_ | ((first | refine Wo fun K hK => ?_ | refine Wp ?_ | refine Wq ?_ | refine Wr ?_); (try simp only [go_sem, fN, seval, eT, iR, h0, h1, dT, dF, nL]); (repeat refine Ai ?_); (try (refine hK _ ?_; clear hK K)); try refine iC ?_)) | refine Cg _ (hcall) ?_)
  simp only [go_sem, fN, seval, AN, AS.result, AB, AD, AK]
  rfl

end Go.Proofs.Ytlbpdlnndnfnlaa
