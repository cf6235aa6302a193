/-
  A term made of raw numbers and a case of it: the law of matching, and what matching is for.
  Conditions: none.
-/
import Derived.Test.YtpajlfdhmjgpnaaBMatch3
import Derived.Test.YtpajlfdhmjgpnaaPMatch2
import Derived.Test.YtpajlfdhmjgpnaaIrMMade
import Derived.Test.YtpajlfdhmjgpnaaBMadeB
namespace Go.Proofs.Ytpajlfdhmjgpnaa
open Go Go.RowKit
set_option linter.unusedVariables false
set_option linter.unusedSimpArgs false
set_option maxHeartbeats 800000

theorem matchMade_a (l : List Int) (m1 m2 : Int) (hl : ∀ n ∈ l, inR .i64 n) (hm : l.length ≤ maxLen) (h1 : inR .i64 m1) (h2 : inR .i64 m2) : ACalls Try.prog 4 [aInts l, aInt m1, aInt m2] (aBool true) := by
  have r1 := pickI_range m1 14 (by omega)
  have r2 := pickI_range m2 6 (by omega)
  have p1 := pick_a m1 14 h1 (by omega)
  have p2 := pick_a m2 6 h2 (by omega)
  obtain ⟨k1, e1⟩ : ∃ k : Nat, pickI m1 14 = k := ⟨(pickI m1 14).toNat, by omega⟩
  obtain ⟨k2, e2⟩ : ∃ k : Nat, pickI m2 6 = k := ⟨(pickI m2 6).toNat, by omega⟩
  rw [e1] at p1 r1
  rw [e2] at p2 r2
  obtain ⟨t, ht, zt, _⟩ := termOf_a l hl hm 3 (by omega) k1 0 (by omega) (by omega)
  obtain ⟨u, hu, zu, _⟩ := termOf_a l hl hm 2 (by omega) 7 70 (by omega) (by omega)
  obtain ⟨bs, hb, _, _, zb⟩ := bindsFrom_a l hl hm 3 (by omega) 30 k2 (by omega) (by omega)
  have hz := size_sub (M := 9) (by omega) (fun b hb => by have := zb b hb; omega) t
  have ho := onRef_a bs t (by omega)
  have he : onTo bs t = (t.on bs, true) := by unfold onTo; rw [if_pos (by omega)]
  rw [he] at ho
  refine ac_L_MatchMade (Nat.le_of_ble_eq_true rfl) fun C hC => ?_
  unfold ir_L_MatchMade
  by_cases h256 : (256 : Int) < l.length
  · repeat' (first | (with_reducible first | refine Wa ?_ | refine Wb ?_ | refine Wc ?_ | refine Wd ?_ | refine We ?_ | refine Wf ?_ | refine Wg ?_ | refine Wh ?_ | refine Wi ?_ | refine Wj ?_ | refine Wk (by decide) ?_ | refine Wl ?_ | refine Wm ?_ | refine Wn ?_) | ((with_reducible first | refine Wo (fun K hK => ?_) | refine Wp ?_ | refine Wq ?_ | refine Wr ?_); (try simp only [go_sem, List.forall_mem_nil, ↓guard_ite, ↓pick_ite, seval, encT_eq, inR_i64, h256, decide_eq_true_eq, decide_eq_false_iff_not, Int.ofNat_lt]); (repeat with_reducible refine And.intro (by first | omega | (with_reducible first | exact lens_encT | exact lens_encL | exact lens_encB | exact lens_encP) | (simp; done) | (simp only [List.length_take, List.length_map, List.length_append, maxLen_eq]; omega)) ?_); (try (with_reducible refine hK _ ?_; clear hK K)); (try with_reducible refine ite_conj ?_)))
    simp only [go_sem, List.forall_mem_nil, ↓guard_ite, ↓pick_ite, seval, FinQ, AS.result, resAll, resOne, tupV]
  · repeat' (first | (with_reducible first | refine Wa ?_ | refine Wb ?_ | refine Wc ?_ | refine Wd ?_ | refine We ?_ | refine Wf ?_ | refine Wg ?_ | refine Wh ?_ | refine Wi ?_ | refine Wj ?_ | refine Wk (by decide) ?_ | refine Wl ?_ | refine Wm ?_ | refine Wn ?_) | refine CallG.mk _ (p1) ?_ | refine CallG.mk _ (ht) ?_ | refine CallG.mk _ (p2) ?_ | refine CallG.mk _ (hb) ?_ | refine CallG.mk _ (ho) ?_ | refine CallG.mk _ (matchSays_a t (t.on bs)) ?_ | refine CallG.mk _ (matchSays_a (t.on bs) t) ?_ | refine CallG.mk _ (hu) ?_ | refine CallG.mk _ (matchSays_a t u) ?_ | ((with_reducible first | refine Wo (fun K hK => ?_) | refine Wp ?_ | refine Wq ?_ | refine Wr ?_); (try simp only [go_sem, List.forall_mem_nil, ↓guard_ite, ↓pick_ite, seval, encT_eq, inR_i64, h256, decide_eq_true_eq, decide_eq_false_iff_not, Int.ofNat_lt]); (repeat with_reducible refine And.intro (by first | omega | (with_reducible first | exact lens_encT | exact lens_encL | exact lens_encB | exact lens_encP) | (simp; done) | (simp only [List.length_take, List.length_map, List.length_append, maxLen_eq]; omega)) ?_); (try (with_reducible refine hK _ ?_; clear hK K)); (try with_reducible refine ite_conj ?_)))
    simp only [go_sem, List.forall_mem_nil, ↓guard_ite, ↓pick_ite, seval, FinQ, AS.result, resAll, resOne, tupV]
end Go.Proofs.Ytpajlfdhmjgpnaa
