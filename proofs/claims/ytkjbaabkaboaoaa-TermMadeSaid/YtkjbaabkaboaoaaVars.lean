/-
  The variables of a term: plain, and the reference's walk.
  Conditions: none.
-/
import Derived.Test.YtkjbaabkaboaoaaText
namespace Go.Proofs.Ytkjbaabkaboaoaa
open Go Go.RowKit
set_option maxHeartbeats 400000
set_option linter.unusedVariables false

/-! ### plain -/
/-- one name more, if it is a variable's and new -/
def addVar (l : List ByteArray) (n : ByteArray) : List ByteArray := if isVar n && !isIn n l then l ++ [n] else l
def addVars (l : List ByteArray) (ks : List Tm) : List ByteArray := ks.foldl (fun l t => addVar l t.name) l
def Tm.varsOf (t : Tm) : List ByteArray := addVars [] t.knots
theorem addVars_nil (l : List ByteArray) : addVars l [] = l := rfl
theorem addVars_snoc (l : List ByteArray) (ks : List Tm) (t : Tm) : addVars l (ks ++ [t]) = addVar (addVars l ks) t.name := by simp [addVars]
theorem addVars_append (l : List ByteArray) (ks ms : List Tm) : addVars l (ks ++ ms) = addVars (addVars l ks) ms := by simp [addVars]
theorem addVar_yes {l : List ByteArray} {n : ByteArray} (h : isVar n = true) (h' : isIn n l = false) : addVar l n = l ++ [n] := by simp [addVar, h, h']
theorem addVar_in {l : List ByteArray} {n : ByteArray} (h' : isIn n l = true) : addVar l n = l := by simp [addVar, h']
theorem addVar_no {l : List ByteArray} {n : ByteArray} (h : isVar n = false) : addVar l n = l := by simp [addVar, h]
theorem addVar_length (l : List ByteArray) (n : ByteArray) : (addVar l n).length ≤ l.length + 1 := by unfold addVar; split <;> simp
theorem addVars_length : ∀ (ks : List Tm) (l : List ByteArray), (addVars l ks).length ≤ l.length + ks.length
  | [], l => by simp [addVars_nil]
  | t :: ts, l => by
    have h1 := addVars_length ts (addVar l t.name)
    have h2 := addVar_length l t.name
    have h3 : addVars l (t :: ts) = addVars (addVar l t.name) ts := rfl
    rw [h3, List.length_cons]
    omega

theorem infoStr : (Try.prog.info? 9).map (fun i => (i.zero, i.size, i.bytes)) = some (some (.string .empty), 1, 16) := by kernel_rfl

/-! ### the walk -/
theorem vars_ref (t : Tm) (σ : Sto) (v : Value) (w : World) (hs : Fit σ w) (ht : TmV σ v t) (hz : t.size ≤ 1000000) :
    Calls Try.prog 31 #[v] w fun e w' => ∃ σ' p l c, e = .returned (.slice p l c) ∧ Slc σ' p l c t.varsOf ∧ Ext w.heap.size σ σ' ∧ Fit σ' w' ∧ Below w.heap.size w w' := by
  obtain ⟨p, len, cap, rfl, hn, hsl⟩ := ht
  obtain ⟨i0, hi, hz0, hz1, hz2⟩ := info_parts infoStr
  have HI := Lib.hid hi; clear hi
  have H0 := Lib.hid hz0; clear hz0
  have H1 := Lib.hid hz1; clear hz1
  have H2 := Lib.hid hz2; clear hz2
  go_enter Try.func31, Try.ntmps31
  go_wp2_with fail
  refine (knots_ref _ t (Nat.lt_succ_self _) σ _ _ (hs.alloc _) ⟨_, _, _, rfl, hn, hsl⟩ hz).mono ?_
  rintro e w1 ⟨σ1, p1, l1, c1, rfl, hsl1, hext1, hf1, hb1⟩
  have hb01 : Below w.heap.size w w1 := below_alloc_call (Below.refl _ _) (Nat.le_refl _) hb1
  have hext : Ext w.heap.size σ σ1 := hext1.mono (by simp)
  have HL := Lib.hid hsl1.length
  have hlm := hsl1.max
  have hll : l1 ≤ 1000000 := by have := HL.out; rw [Tm.knots_length] at this; omega
  clear hext1 hb1
  go_wp2_with fail
  go_loopw [4, 5] (fun n i wr => ∃ k : Nat, k ≤ l1 ∧ i = .int .i64 k ∧ Own σ1 w.heap.size wr 9 n (addVars [] (t.knots.take k)) ∧ Fit σ1 wr ∧ Below w.heap.size w wr) (fun _ i _ => l1 - (intOf i).toNat)
  case atStart => exact ⟨0, Nat.zero_le _, rfl, Own.nil _ _ _ _, hf1, hb01⟩
  case round =>
    obtain ⟨k, hk, rfl, hown, hfr, hb⟩ := hrel
    have hsz := hb.size
    by_cases hlt : k < l1
    · obtain ⟨b, o, a, q', l, c, rfl, HA, f0, f1, hn', hsl'⟩ := hsl1.tm k hlt
      have g0 := hfr _ _ f0
      clear f0 f1
      have HT : Hid (addVars [] (t.knots.take (k+1)) = addVar (addVars [] (t.knots.take k)) a.name) := Lib.hid (by rw [take_snoc HA.out, addVars_snoc])
      have hlen : (addVars [] (t.knots.take k)).length ≤ 1000000 := by
        have h1 := addVars_length (t.knots.take k) []
        rw [List.length_take] at h1
        simp at h1
        omega
      obtain ⟨σ2, he2, hf2, _, p2, l2, c2, hv2, hsl2⟩ := hown.done hfr 0 (Nat.zero_le _)
      subst hv2
      go_wp2_with fail
      refine (var_ref _ _).mono ?_
      rintro e w2 ⟨rfl, rfl⟩
      cases hv : isVar a.name with
      | false =>
        have HV := Lib.hid (addVar_no (l := addVars [] (t.knots.take k)) hv)
        clear hv
        go_wp2_with fail
        go_roundw
        case rel => exact ⟨k + 1, by omega, by go_num, by rw [HT.out, HV.out]; exact hown, hfr, hb⟩
        case measure => simp [intOf]; omega
      | true =>
        have HV := Lib.hid hv; clear hv
        go_wp2_with fail
        refine (in_ref _ _ σ2 _ _ _ _ hf2 hsl2).mono ?_
        rintro e w2 ⟨rfl, rfl⟩
        cases hi : isIn a.name (addVars [] (t.knots.take k)) with
        | true =>
          have HV' := Lib.hid (addVar_in hi)
          clear hi
          go_wp2_with fail
          go_roundw
          case rel => exact ⟨k + 1, by omega, by go_num, by rw [HT.out, HV'.out]; exact hown, hfr, hb⟩
          case measure => simp [intOf]; omega
        | false =>
          have HV' := Lib.hid (addVar_yes HV.out hi)
          clear hi
          have h63 : (addVars [] (t.knots.take k)).length + 1 ≤ maxLen := by simp only [maxLen]; omega
          have hbb : ((addVars [] (t.knots.take k)).length + 1) * 16 ≤ 140737488355328 := by omega
          go_wp2_with (at_builtin; refine wpList_one rfl _ _ _ rfl (hown.alloc _) (hfr.alloc _) i0 _ 16 Try.underlying53 HI.out H0.out H1.out H2.out rfl (by decide) wr.heap.size _ 9 (heap_alloc_new wr _) a.name (cells_str.2 ⟨rfl, hn'⟩) rfl rfl h63 hbb (by simp; omega) ?_; intro v' w2 hg)
          go_roundw
          case rel =>
            refine ⟨k + 1, by omega, by go_num, by rw [HT.out, HV'.out]; exact hg.own, hg.fit, ?_⟩
            exact (hb.alloc hsz _).grown hg.grown (by simp; omega) (fun g hgk => (hown.lt g hgk).1)
          case measure => simp [intOf]; omega
    · obtain rfl : k = l1 := by omega
      go_wp2_with fail
      go_ret
      obtain ⟨σ2, e1, e2, e3, p2, l2, c2, rfl, hsl2⟩ := hown.done hfr w.heap.size (by omega)
      rw [List.take_of_length_le (by have := HL.out; omega)] at hsl2
      exact ⟨σ2, p2, l2, c2, rfl, hsl2, hext.trans e1, e2, hb⟩
end Go.Proofs.Ytkjbaabkaboaoaa
