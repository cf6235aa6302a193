/-
  Part 18 of the texts: BParse; BDefer; BParse2; IrFact. Conditions: none.
-/
import Derived.Test.YtohgkbgpcnmdpaaNon17
import Derived.Defers
import Derived.Recover
import Derived.ChangeKeysEq
namespace Go.Proofs.Ytohgkbgpcnmdpaa
open Go Go.RowKit
set_option linter.unusedVariables false
set_option linter.unusedSimpArgs false
set_option maxHeartbeats 1600000
def bracket (u : ByteArray) : Bool := decide (0 < u.size) && decide (byteN u 0 = 40)
theorem extract_one {u : ByteArray} (h : 0 < u.size) : u.extract 0 1 = ⟨#[40]⟩ ↔ byteN u 0 = 40 := by
  have e1 : (u.extract 0 1).data.toList = u.data.toList.take 1 := by
    rw [ByteArray.data_extract, Array.toList_extract, List.extract_eq_take_drop]
    rfl
  have hl : 0 < u.data.toList.length := h
  unfold byteN
  obtain ⟨c, l, hc⟩ : ∃ c l, u.data.toList = c :: l := by
    cases hu : u.data.toList with
    | nil => rw [hu] at hl; cases hl
    | cons c l => exact ⟨c, l, rfl⟩
  rw [hc] at e1 ⊢
  constructor
  · intro he
    rw [he] at e1
    have : c = 40 := by
      have h2 : [40] = [c] := e1
      injection h2 with h3
      exact h3.symm
    subst this
    rfl
  · intro he
    have hc40 : c = 40 := by
      have : c.toNat = 40 := by
        have h' : ((c.toNat : Nat) : Int) = 40 := he
        omega
      exact UInt8.toNat_inj.1 this
    subst hc40
    apply ByteArray.ext
    apply Array.toList_inj.1
    rw [e1]
    rfl
theorem hasPrefixI_a (u : ByteArray) : ACalls Try.prog 66 [aStr u, aStr ⟨#[40]⟩] (aBool (bracket u)) := by
  have h40i : ((#[(40 : UInt8)].size : Nat) : Int) = 1 := rfl
  by_cases h0 : u.size = 0
  · have hb : bracket u = false := by unfold bracket; rw [h0]; rfl
    rw [hb]
    have h0i : ¬ (1 : Int) ≤ u.size := by omega
    refine ac_internal_stringslite_HasPrefix (Nat.le_of_ble_eq_true rfl) fun C hC => ?_
    unfold ir_internal_stringslite_HasPrefix
    repeat' (first | (with_reducible first | refine Wa ?_ | refine Wb ?_ | refine Wc ?_ | refine Wd ?_ | refine We ?_ | refine Wf ?_ | refine Wg ?_ | refine Wh ?_ | refine Wi ?_ | refine Wj ?_ | refine Wk (by decide) ?_ | refine Wl ?_ | refine Wm ?_ | refine Wn ?_) | ((with_reducible first | refine Wo (fun K hK => ?_) | refine Wp ?_ | refine Wq ?_ | refine Wr ?_); (try simp only [go_sem, List.forall_mem_nil, ↓guard_ite, ↓pick_ite, seval, encT_eq, inR_i64, h0i, h40i, decide_eq_true_eq, decide_eq_false_iff_not, Int.ofNat_lt]); (repeat with_reducible refine And.intro (by first | omega | (with_reducible first | exact lens_encT | exact lens_encL | exact lens_encB | exact lens_encP) | (simp; done) | (simp only [List.length_take, List.length_map, List.length_append, maxLen_eq]; omega)) ?_); (try (with_reducible refine hK _ ?_; clear hK K)); (try with_reducible refine ite_conj ?_)))
    simp only [go_sem, List.forall_mem_nil, ↓guard_ite, ↓pick_ite, seval, FinQ, AS.result, resAll, resOne, tupV]
  · have h0i : (1 : Int) ≤ u.size := by omega
    have he := extract_one (u := u) (by omega)
    have hb : bracket u = decide (u.extract 0 1 = ⟨#[40]⟩) := by
      unfold bracket
      rw [decide_eq_true (by omega : 0 < u.size), Bool.true_and]
      exact decide_eq_decide.2 he.symm
    rw [hb]
    refine ac_internal_stringslite_HasPrefix (Nat.le_of_ble_eq_true rfl) fun C hC => ?_
    unfold ir_internal_stringslite_HasPrefix
    repeat' (first | (with_reducible first | refine Wa ?_ | refine Wb ?_ | refine Wc ?_ | refine Wd ?_ | refine We ?_ | refine Wf ?_ | refine Wg ?_ | refine Wh ?_ | refine Wi ?_ | refine Wj ?_ | refine Wk (by decide) ?_ | refine Wl ?_ | refine Wm ?_ | refine Wn ?_) | ((with_reducible first | refine Wo (fun K hK => ?_) | refine Wp ?_ | refine Wq ?_ | refine Wr ?_); (try simp only [go_sem, List.forall_mem_nil, ↓guard_ite, ↓pick_ite, seval, encT_eq, inR_i64, h0i, h40i, decide_eq_true_eq, decide_eq_false_iff_not, Int.ofNat_lt]); (repeat with_reducible refine And.intro (by first | omega | (with_reducible first | exact lens_encT | exact lens_encL | exact lens_encB | exact lens_encP) | (simp; done) | (simp only [List.length_take, List.length_map, List.length_append, maxLen_eq]; omega)) ?_); (try (with_reducible refine hK _ ?_; clear hK K)); (try with_reducible refine ite_conj ?_)))
    simp only [go_sem, List.forall_mem_nil, ↓guard_ite, ↓pick_ite, seval, FinQ, AS.result, resAll, resOne, tupV]
theorem hasPrefix_a (u : ByteArray) : ACalls Try.prog 49 [aStr u, aStr ⟨#[40]⟩] (aBool (bracket u)) := by
  refine ac_strings_HasPrefix (Nat.le_of_ble_eq_true rfl) fun C hC => ?_
  unfold ir_strings_HasPrefix
  repeat' (first | (with_reducible first | refine Wa ?_ | refine Wb ?_ | refine Wc ?_ | refine Wd ?_ | refine We ?_ | refine Wf ?_ | refine Wg ?_ | refine Wh ?_ | refine Wi ?_ | refine Wj ?_ | refine Wk (by decide) ?_ | refine Wl ?_ | refine Wm ?_ | refine Wn ?_) | refine CallG.mk _ (hasPrefixI_a u) ?_ | ((with_reducible first | refine Wo (fun K hK => ?_) | refine Wp ?_ | refine Wq ?_ | refine Wr ?_); (try simp only [go_sem, List.forall_mem_nil, ↓guard_ite, ↓pick_ite, seval, encT_eq, inR_i64, decide_eq_true_eq, decide_eq_false_iff_not, Int.ofNat_lt]); (repeat with_reducible refine And.intro (by first | omega | (with_reducible first | exact lens_encT | exact lens_encL | exact lens_encB | exact lens_encP) | (simp; done) | (simp only [List.length_take, List.length_map, List.length_append, maxLen_eq]; omega)) ?_); (try (with_reducible refine hK _ ?_; clear hK K)); (try with_reducible refine ite_conj ?_)))
  simp only [go_sem, List.forall_mem_nil, ↓guard_ite, ↓pick_ite, seval, FinQ, AS.result, resAll, resOne, tupV]
abbrev boxR (u : ByteArray) (l : Int) : ABlk := .box 66 [.st (.str u), .st (.int .i64 l)]
abbrev fault (e : Int) : Value := .iface 62 (.int .i64 e)
theorem tail_nil {s : ByteArray} {i : Nat} (hi : i ≤ s.size) : tailS s i = ⟨#[]⟩ ↔ i = s.size := by
  constructor
  · intro h
    have := tail_size s i
    rw [h] at this
    have h0 : (⟨#[]⟩ : ByteArray).size = 0 := rfl
    omega
  · intro h
    have := tail_size s i
    exact ByteArray.size_eq_zero_iff.1 (by omega)
def OkEnd (s : ByteArray) (r : Rd) (b : Nat) (S : AStore) (x : AS) : Prop := ∃ r0, (resAll x [RV.cell 2 true 2]).map tupV = some r0 ∧ outV x.S r0 = some (aTm r.t) ∧ x.S b = some (boxR (tailS s r.i) (200 - r.k)) ∧ ∀ i, 1000 ≤ i → i ≠ b → x.S i = S i
def PanEnd (b : Nat) (S : AStore) (x : AS) : Prop := ((∃ ty xs, x.S b = some (.box ty xs)) ∨ x.S b = some (.dead 1 0)) ∧ ∀ i, 1000 ≤ i → i ≠ b → x.S i = S i
theorem panEnd_box {b : Nat} {S : AStore} {x : AS} {u : ByteArray} {l : Int} (h : x.S b = some (boxR u l)) (h2 : ∀ i, 1000 ≤ i → i ≠ b → x.S i = S i) : PanEnd b S x := ⟨.inl ⟨_, _, h⟩, h2⟩
def ReadS (s : ByteArray) (r : Rd) (b : Nat) (S : AStore) : Prop :=
  (r.e = 0 → ACallsS Try.prog 27 [.one (.ptr b 1 0 0)] S (aTm r.t) (updE S b (some (boxR (tailS s r.i) (200 - r.k))))) ∧
  (r.e ≠ 0 → APan Try.prog 27 [.one (.ptr b 1 0 0)] S (fault r.e) (updE S b (some (.dead 1 0))))
theorem readS_of {s : ByteArray} {r : Rd} {b : Nat} {S : AStore} (hb : 1000 ≤ b) (h : Clean S → ∀ (C : Ctx) (Q : AX → AS → Prop), C.n = 125 → (r.e = 0 → ∀ x, OkEnd s r b S x → Q .ret x) → (r.e ≠ 0 → ∀ x, PanEnd b S x → Q (.pan (fault r.e)) x) → IWP Try.prog C [90] ir_metaprune_term_reader_term Q (AS.startS [.one (.ptr b 1 0 0)] S)) : ReadS s r b S := by
  refine ⟨fun he => ?_, fun he => ?_⟩
  · refine acS_metaprune_term_reader_term (Nat.le_of_ble_eq_true rfl) fun hS C hC => h hS C _ hC (fun _ x hx => ?_) (fun hne => absurd he hne)
    obtain ⟨r0, h1, h2, h3, h4⟩ := hx
    exact finS_one r0 hS hb rfl trivial h1 h2 h3 h4
  · refine acP_metaprune_term_reader_term (Nat.le_of_ble_eq_true rfl) fun hS C hC => h hS C _ hC (fun h0 => absurd h0 he) (fun _ x hx => ?_)
    obtain ⟨⟨ty, xs, h1⟩ | h1, h2⟩ := hx
    · exact finP_box hS hb h1 h2
    · exact finP_at hS hb h1 h2
def TInv (s : ByteArray) (r : Rd) (f : Nat) (nm : ByteArray) (acc : List Tm) (j c : Nat) (more : Bool) : Prop :=
  (more = true ∧ ∃ g, r = rdA s g nm acc j c ∧ 2 * (s.size - j) ≤ g ∧ g ≤ f ∧ j < s.size) ∨ (more = false ∧ r = ⟨.mk nm acc, j + 1, c, 0⟩ ∧ j < s.size)
theorem rterm_S (s : ByteArray) (hs : s.size ≤ 100000) : ∀ f i k : Nat, i ≤ s.size → k ≤ 200 → 2 * (s.size - i) < f → ∀ (b : Nat) (S : AStore), 1000 ≤ b → S b = some (boxR (tailS s i) (200 - k)) → ReadS s (rd s f i k) b S := by
  intro f
  induction f using Nat.strongRecOn with
  | _ f ih =>
  intro i k hi hk hf b S hb sb
  obtain ⟨f, rfl⟩ : ∃ g, f = g + 1 := ⟨f - 1, by omega⟩
  obtain ⟨l1, l2⟩ := lendA_le hi
  have hus := tail_size s i
  refine readS_of hb fun hS C Q hC hok hpan => ?_
  have n2 : S 2 = none := clean_none hS (by omega)
  have n4 : S 4 = none := clean_none hS (by omega)
  have n900 : S 900 = none := clean_none hS (by omega)
  have e2 : ¬ b = 2 := by omega
  have e4 : ¬ b = 4 := by omega
  have e900 : ¬ b = 900 := by omega
  have d2 : ¬ 2 = b := by omega
  have d4 : ¬ 4 = b := by omega
  have d900 : ¬ 900 = b := by omega
  unfold ir_metaprune_term_reader_term
  repeat' (first | (with_reducible first | refine Wa ?_ | refine Wb ?_ | refine Wc ?_ | refine Wd ?_ | refine We ?_ | refine Wf ?_ | refine Wg ?_ | refine Wh ?_ | refine Wi ?_ | refine Wj ?_ | refine Wk (by decide) ?_ | refine Wl ?_ | refine Wm ?_ | refine Wn ?_) | ((with_reducible first | refine Wx rfl (fun K hK => ?_) | refine Wp ?_ | refine Wq ?_ | refine Wr ?_); (try simp only [go_sem, List.forall_mem_nil, ↓guard_ite, ↓pick_ite, seval, encT_eq, inR_i64, n2, e2, d2, decide_eq_true_eq, decide_eq_false_iff_not, Int.ofNat_lt]); (repeat with_reducible refine And.intro (by first | omega | (with_reducible first | exact lens_encT | exact lens_encL | exact lens_encB | exact lens_encP) | (simp; done) | (simp only [List.length_take, List.length_map, List.length_append, maxLen_eq]; omega)) ?_); (try (with_reducible refine hK _ ?_; clear hK K)); (try with_reducible refine ite_conj ?_)))
  refine IWP.cut 0 (fun x => x.env 0 = .one (.ptr b 1 0 0) ∧ x.env 2 = .one (.ptr 2 1 0 0) ∧ x.env 3 = aInt ((lendA s i - i : Nat) : Int) ∧ x.S 2 = some boxT0r ∧ x.S 4 = none ∧ x.S 900 = none ∧ x.S b = some (boxR (tailS s i) (200 - k)) ∧ ∀ i, 1000 ≤ i → i ≠ b → x.S i = S i) ?_ ?_
  · refine IWP.loop (fun m x => ∃ j, i + j ≤ s.size ∧ m = s.size - i - j ∧ lendA s i = lendA s (i + j) ∧ x.env 0 = .one (.ptr b 1 0 0) ∧ x.env 2 = .one (.ptr 2 1 0 0) ∧ x.env 3 = aInt j ∧ x.S 2 = some boxT0r ∧ x.S 4 = none ∧ x.S 900 = none ∧ x.S b = some (boxR (tailS s i) (200 - k)) ∧ ∀ i, 1000 ≤ i → i ≠ b → x.S i = S i) (s.size - i) ⟨0, hi, rfl, rfl, rfl, rfl, rfl, by simp only [go_sem, List.forall_mem_nil, ↓guard_ite, ↓pick_ite, seval, encT_eq, inR_i64], by simp only [go_sem, List.forall_mem_nil, ↓guard_ite, ↓pick_ite, seval, encT_eq, inR_i64, n4], by simp only [go_sem, List.forall_mem_nil, ↓guard_ite, ↓pick_ite, seval, encT_eq, inR_i64, n900], by simp only [go_sem, List.forall_mem_nil, ↓guard_ite, ↓pick_ite, seval, encT_eq, inR_i64, e2, sb], fun i hi hne => ?_⟩ ?_
    · have i2 : ¬ i = 2 := by omega
      simp only [go_sem, List.forall_mem_nil, ↓guard_ite, ↓pick_ite, seval, encT_eq, inR_i64, i2]
    rintro m ⟨env, S1⟩ ⟨j, hj, rfl, hl, v0, v2, v3, t2, t4, t900, tb, hrest⟩
    simp only at v0 v2 v3 t2 t4 t900 tb hrest
    by_cases hlt : (j : Int) < (tailS s i).size
    · have hbt := byteN_tail (s := s) (i := i) (k := j) (by omega)
      have hbr := byteAt_range s (i + j)
      rw [← hbt] at hbr
      by_cases hlet : letterI (byteN (tailS s i) j) = true
      · repeat' (first | (with_reducible first | refine Wa ?_ | refine Wb ?_ | refine Wc ?_ | refine Wd ?_ | refine We ?_ | refine Wf ?_ | refine Wg ?_ | refine Wh ?_ | refine Wi ?_ | refine Wj ?_ | refine Wk (by decide) ?_ | refine Wl ?_ | refine Wm ?_ | refine Wn ?_) | refine CallG.mk _ (letter_a (byteN (tailS s i) j) hbr.1) ?_ | ((with_reducible first | refine Wx rfl (fun K hK => ?_) | refine Wp ?_ | refine Wq ?_ | refine Wr ?_); (try simp only [go_sem, List.forall_mem_nil, ↓guard_ite, ↓pick_ite, seval, encT_eq, inR_i64, v0, v2, v3, t2, t4, t900, tb, hlt, hlet, decide_eq_true_eq, decide_eq_false_iff_not, Int.ofNat_lt]); (repeat with_reducible refine And.intro (by first | omega | (with_reducible first | exact lens_encT | exact lens_encL | exact lens_encB | exact lens_encP) | (simp; done) | (simp only [List.length_take, List.length_map, List.length_append, maxLen_eq]; omega)) ?_); (try (with_reducible refine hK _ ?_; clear hK K)); (try with_reducible refine ite_conj ?_)))
        refine then_normal ⟨s.size - i - (j + 1), by omega, j + 1, by omega, rfl, ?_, ?_⟩
        · rw [hl]
          exact lendA_on (by omega) (by rw [← hbt]; exact hlet)
        · simp only [go_sem, List.forall_mem_nil, ↓guard_ite, ↓pick_ite, seval, encT_eq, inR_i64, v0, v2, v3, t2, t4, t900, tb]
          exact ⟨by congr 3, hrest⟩
      · have hst : lendA s (i + j) = i + j := lendA_stop (by omega) (by rw [← hbt]; exact hlet)
        repeat' (first | (with_reducible first | refine Wa ?_ | refine Wb ?_ | refine Wc ?_ | refine Wd ?_ | refine We ?_ | refine Wf ?_ | refine Wg ?_ | refine Wh ?_ | refine Wi ?_ | refine Wj ?_ | refine Wk (by decide) ?_ | refine Wl ?_ | refine Wm ?_ | refine Wn ?_) | refine CallG.mk _ (letter_a (byteN (tailS s i) j) hbr.1) ?_ | ((with_reducible first | refine Wx rfl (fun K hK => ?_) | refine Wp ?_ | refine Wq ?_ | refine Wr ?_); (try simp only [go_sem, List.forall_mem_nil, ↓guard_ite, ↓pick_ite, seval, encT_eq, inR_i64, v0, v2, v3, t2, t4, t900, tb, hlt, hlet, decide_eq_true_eq, decide_eq_false_iff_not, Int.ofNat_lt]); (repeat with_reducible refine And.intro (by first | omega | (with_reducible first | exact lens_encT | exact lens_encL | exact lens_encB | exact lens_encP) | (simp; done) | (simp only [List.length_take, List.length_map, List.length_append, maxLen_eq]; omega)) ?_); (try (with_reducible refine hK _ ?_; clear hK K)); (try with_reducible refine ite_conj ?_)))
        refine ⟨rfl, ?_⟩
        simp only [go_sem, List.forall_mem_nil, ↓guard_ite, ↓pick_ite, seval, encT_eq, inR_i64, v0, v2, v3, t2, t4, t900, tb]
        refine ⟨?_, hrest⟩
        rw [hl, hst]
        congr 4
        omega
    · have hst : lendA s (i + j) = i + j := lendA_end (by omega)
      repeat' (first | (with_reducible first | refine Wa ?_ | refine Wb ?_ | refine Wc ?_ | refine Wd ?_ | refine We ?_ | refine Wf ?_ | refine Wg ?_ | refine Wh ?_ | refine Wi ?_ | refine Wj ?_ | refine Wk (by decide) ?_ | refine Wl ?_ | refine Wm ?_ | refine Wn ?_) | ((with_reducible first | refine Wx rfl (fun K hK => ?_) | refine Wp ?_ | refine Wq ?_ | refine Wr ?_); (try simp only [go_sem, List.forall_mem_nil, ↓guard_ite, ↓pick_ite, seval, encT_eq, inR_i64, v0, v2, v3, t2, t4, t900, tb, hlt, decide_eq_true_eq, decide_eq_false_iff_not, Int.ofNat_lt]); (repeat with_reducible refine And.intro (by first | omega | (with_reducible first | exact lens_encT | exact lens_encL | exact lens_encB | exact lens_encP) | (simp; done) | (simp only [List.length_take, List.length_map, List.length_append, maxLen_eq]; omega)) ?_); (try (with_reducible refine hK _ ?_; clear hK K)); (try with_reducible refine ite_conj ?_)))
      refine ⟨rfl, ?_⟩
      simp only [go_sem, List.forall_mem_nil, ↓guard_ite, ↓pick_ite, seval, encT_eq, inR_i64, v0, v2, v3, t2, t4, t900, tb]
      refine ⟨?_, hrest⟩
      rw [hl, hst]
      congr 4
      omega
  rintro ⟨env, S1⟩ ⟨v0, v2, v3, t2, t4, t900, tb, hrest⟩
  simp only at v0 v2 v3 t2 t4 t900 tb hrest
  have htn := tail_nil hi
  by_cases h0 : lendA s i = i
  · rw [rd_zero h0] at hok hpan
    have hz : ((lendA s i - i : Nat) : Int) = 0 := by omega
    rw [hz] at v3
    by_cases h1 : i = s.size
    · have ht := htn.2 h1
      rw [if_pos h1] at hpan
      repeat' (first | (with_reducible first | refine Wa ?_ | refine Wb ?_ | refine Wc ?_ | refine Wd ?_ | refine We ?_ | refine Wf ?_ | refine Wg ?_ | refine Wh ?_ | refine Wi ?_ | refine Wj ?_ | refine Wk (by decide) ?_ | refine Wl ?_ | refine Wm ?_ | refine Wn ?_) | ((with_reducible first | refine Wx rfl (fun K hK => ?_) | refine Wp ?_ | refine Wq ?_ | refine Wr ?_); (try simp only [go_sem, List.forall_mem_nil, ↓guard_ite, ↓pick_ite, seval, encT_eq, inR_i64, v0, v2, v3, t2, t4, t900, tb, ht, decide_eq_true_eq, decide_eq_false_iff_not, Int.ofNat_lt]); (repeat with_reducible refine And.intro (by first | omega | (with_reducible first | exact lens_encT | exact lens_encL | exact lens_encB | exact lens_encP) | (simp; done) | (simp only [List.length_take, List.length_map, List.length_append, maxLen_eq]; omega)) ?_); (try (with_reducible refine hK _ ?_; clear hK K)); (try with_reducible refine ite_conj ?_)))
      refine IWP.opsPan 1 _ rfl (by kernel_rfl) ?_
      simp only [go_sem, List.forall_mem_nil, ↓guard_ite, ↓pick_ite, seval, encT_eq, inR_i64, PanAt, List.take_succ_cons, List.take_zero]
      intro envP
      repeat' (with_reducible first | refine Wy ?_ | refine Wz ?_ | refine Wv ?_)
      exact hpan (by show ¬ (13 : Int) = 0; decide) _ (panEnd_box tb hrest)
    · have ht : ¬ tailS s i = ⟨#[]⟩ := fun h => h1 (htn.1 h)
      rw [if_neg h1] at hpan
      repeat' (first | (with_reducible first | refine Wa ?_ | refine Wb ?_ | refine Wc ?_ | refine Wd ?_ | refine We ?_ | refine Wf ?_ | refine Wg ?_ | refine Wh ?_ | refine Wi ?_ | refine Wj ?_ | refine Wk (by decide) ?_ | refine Wl ?_ | refine Wm ?_ | refine Wn ?_) | ((with_reducible first | refine Wx rfl (fun K hK => ?_) | refine Wp ?_ | refine Wq ?_ | refine Wr ?_); (try simp only [go_sem, List.forall_mem_nil, ↓guard_ite, ↓pick_ite, seval, encT_eq, inR_i64, v0, v2, v3, t2, t4, t900, tb, ht, decide_eq_true_eq, decide_eq_false_iff_not, Int.ofNat_lt]); (repeat with_reducible refine And.intro (by first | omega | (with_reducible first | exact lens_encT | exact lens_encL | exact lens_encB | exact lens_encP) | (simp; done) | (simp only [List.length_take, List.length_map, List.length_append, maxLen_eq]; omega)) ?_); (try (with_reducible refine hK _ ?_; clear hK K)); (try with_reducible refine ite_conj ?_)))
      refine IWP.opsPan 1 _ rfl (by kernel_rfl) ?_
      simp only [go_sem, List.forall_mem_nil, ↓guard_ite, ↓pick_ite, seval, encT_eq, inR_i64, PanAt, List.take_succ_cons, List.take_zero]
      intro envP
      repeat' (with_reducible first | refine Wy ?_ | refine Wz ?_ | refine Wv ?_)
      exact hpan (by show ¬ (12 : Int) = 0; decide) _ (panEnd_box tb hrest)
  obtain ⟨n0, hn0⟩ : ∃ n0, lendA s i = i + n0 := ⟨lendA s i - i, by omega⟩
  have hq : lendA s i - i = n0 := by omega
  rw [hq] at v3
  have q1 : ¬ (n0 : Int) = 0 := by omega
  have hin0 : i + n0 ≤ s.size := by omega
  obtain ⟨nm, hnm⟩ : ∃ nm, s.extract i (i + n0) = nm := ⟨_, rfl⟩
  have hext : (tailS s i).extract 0 n0 = nm := (tail_take hin0).trans hnm
  have hdr := tail_drop (s := s) (i := i) (n := n0) hin0
  by_cases h1 : nameOk nm = true
  case neg =>
    rw [rd_name h0 (by rw [hn0, hnm]; exact h1)] at hok hpan
    repeat' (first | (with_reducible first | refine Wa ?_ | refine Wb ?_ | refine Wc ?_ | refine Wd ?_ | refine We ?_ | refine Wf ?_ | refine Wg ?_ | refine Wh ?_ | refine Wi ?_ | refine Wj ?_ | refine Wk (by decide) ?_ | refine Wl ?_ | refine Wm ?_ | refine Wn ?_) | refine CallG.mk _ (name_a nm) ?_ | ((with_reducible first | refine Wx rfl (fun K hK => ?_) | refine Wp ?_ | refine Wq ?_ | refine Wr ?_); (try simp only [go_sem, List.forall_mem_nil, ↓guard_ite, ↓pick_ite, seval, encT_eq, inR_i64, v0, v2, v3, t2, t4, t900, tb, q1, hext, h1, decide_eq_true_eq, decide_eq_false_iff_not, Int.ofNat_lt]); (repeat with_reducible refine And.intro (by first | omega | (with_reducible first | exact lens_encT | exact lens_encL | exact lens_encB | exact lens_encP) | (simp; done) | (simp only [List.length_take, List.length_map, List.length_append, maxLen_eq]; omega)) ?_); (try (with_reducible refine hK _ ?_; clear hK K)); (try with_reducible refine ite_conj ?_)))
    refine IWP.opsPan 1 _ rfl (by kernel_rfl) ?_
    simp only [go_sem, List.forall_mem_nil, ↓guard_ite, ↓pick_ite, seval, encT_eq, inR_i64, PanAt, List.take_succ_cons, List.take_zero]
    intro envP
    repeat' (with_reducible first | refine Wy ?_ | refine Wz ?_ | refine Wv ?_)
    refine hpan (by show ¬ (1 : Int) = 0; decide) _ (panEnd_box (u := tailS s i) (l := 200 - k) ?_ fun i hi hne => ?_)
    · simp only [go_sem, List.forall_mem_nil, ↓guard_ite, ↓pick_ite, seval, encT_eq, inR_i64, tb, e4]
    · have i4 : ¬ i = 4 := by omega
      simp only [go_sem, List.forall_mem_nil, ↓guard_ite, ↓pick_ite, seval, encT_eq, inR_i64, i4]
      exact hrest i hi hne
  case pos =>
  have hk1 : ((200 : Int) - k - 1 < 0) ↔ 200 < k + 1 := by omega
  by_cases h2 : 200 < k + 1
  · have h2i : (200 : Int) - k - 1 < 0 := hk1.2 h2
    rw [rd_limit h0 (by rw [hn0, hnm]; exact h1) h2] at hok hpan
    repeat' (first | (with_reducible first | refine Wa ?_ | refine Wb ?_ | refine Wc ?_ | refine Wd ?_ | refine We ?_ | refine Wf ?_ | refine Wg ?_ | refine Wh ?_ | refine Wi ?_ | refine Wj ?_ | refine Wk (by decide) ?_ | refine Wl ?_ | refine Wm ?_ | refine Wn ?_) | refine CallG.mk _ (name_a nm) ?_ | ((with_reducible first | refine Wx rfl (fun K hK => ?_) | refine Wp ?_ | refine Wq ?_ | refine Wr ?_); (try simp only [go_sem, List.forall_mem_nil, ↓guard_ite, ↓pick_ite, seval, encT_eq, inR_i64, v0, v2, v3, t2, t4, t900, tb, q1, hext, h1, h2i, e4, decide_eq_true_eq, decide_eq_false_iff_not, Int.ofNat_lt]); (repeat with_reducible refine And.intro (by first | omega | (with_reducible first | exact lens_encT | exact lens_encL | exact lens_encB | exact lens_encP) | (simp; done) | (simp only [List.length_take, List.length_map, List.length_append, maxLen_eq]; omega)) ?_); (try (with_reducible refine hK _ ?_; clear hK K)); (try with_reducible refine ite_conj ?_)))
    refine IWP.opsPan 1 _ rfl (by kernel_rfl) ?_
    simp only [go_sem, List.forall_mem_nil, ↓guard_ite, ↓pick_ite, seval, encT_eq, inR_i64, PanAt, List.take_succ_cons, List.take_zero]
    intro envP
    repeat' (with_reducible first | refine Wy ?_ | refine Wz ?_ | refine Wv ?_)
    refine hpan (by show ¬ (3 : Int) = 0; decide) _ (panEnd_box (u := tailS s i) (l := 200 - k - 1) ?_ fun i hi hne => ?_)
    · simp only [go_sem, List.forall_mem_nil, ↓guard_ite, ↓pick_ite, seval, encT_eq, inR_i64, tb, e4]
    · have i4 : ¬ i = 4 := by omega
      simp only [go_sem, List.forall_mem_nil, ↓guard_ite, ↓pick_ite, seval, encT_eq, inR_i64, i4, hne]
      exact hrest i hi hne
  have h2i : ¬ (200 : Int) - k - 1 < 0 := fun h => h2 (hk1.1 h)
  have hus2 := tail_size s (i + n0)
  by_cases h3 : bracket (tailS s (i + n0)) = true
  case neg =>
    have h3' : lendA s i = s.size ∨ byteAt s (lendA s i) ≠ 40 := by
      rw [hn0]
      by_cases hz : i + n0 = s.size
      · exact .inl hz
      · refine .inr fun h40 => h3 ?_
        have hbt := byteN_tail (s := s) (i := i + n0) (k := 0) (by omega)
        rw [Nat.add_zero, h40] at hbt
        unfold bracket
        rw [hbt, hus2]
        simp
        omega
    rw [rd_leaf h0 (by rw [hn0, hnm]; exact h1) h2 h3', hn0, hnm] at hok hpan
    repeat' (first | (with_reducible first | refine Wa ?_ | refine Wb ?_ | refine Wc ?_ | refine Wd ?_ | refine We ?_ | refine Wf ?_ | refine Wg ?_ | refine Wh ?_ | refine Wi ?_ | refine Wj ?_ | refine Wk (by decide) ?_ | refine Wl ?_ | refine Wm ?_ | refine Wn ?_) | refine CallG.mk _ (name_a nm) ?_ | refine CallG.mk _ (hasPrefix_a (tailS s (i + n0))) ?_ | ((with_reducible first | refine Wx rfl (fun K hK => ?_) | refine Wp ?_ | refine Wq ?_ | refine Wr ?_); (try simp only [go_sem, List.forall_mem_nil, ↓guard_ite, ↓pick_ite, seval, encT_eq, inR_i64, v0, v2, v3, t2, t4, t900, tb, q1, hext, hdr, h1, h2i, h3, e4, d4, e2, d2, decide_eq_true_eq, decide_eq_false_iff_not, Int.ofNat_lt]); (repeat with_reducible refine And.intro (by first | omega | (with_reducible first | exact lens_encT | exact lens_encL | exact lens_encB | exact lens_encP) | (simp; done) | (simp only [List.length_take, List.length_map, List.length_append, maxLen_eq]; omega)) ?_); (try (with_reducible refine hK _ ?_; clear hK K)); (try with_reducible refine ite_conj ?_)))
    refine hok rfl _ ⟨.agg [.st (.str nm), .full []], ?_, ?_, ?_, fun i hi hne => ?_⟩
    · simp only [go_sem, List.forall_mem_nil, ↓guard_ite, ↓pick_ite, seval, encT_eq, inR_i64, resAll, resOne, tupV, v0, v2, v3, t2, t4, t900, tb, e4, d4, e2, d2]
    · simp only [go_sem, List.forall_mem_nil, ↓guard_ite, ↓pick_ite, seval, encT_eq, inR_i64]
      rfl
    · simp only [go_sem, List.forall_mem_nil, ↓guard_ite, ↓pick_ite, seval, encT_eq, inR_i64, tb, e4, e2, hdr]
      rw [show (200 : Int) - ((k + 1 : Nat) : Int) = 200 - k - 1 by omega]
    · have i4 : ¬ i = 4 := by omega
      have i2 : ¬ i = 2 := by omega
      simp only [go_sem, List.forall_mem_nil, ↓guard_ite, ↓pick_ite, seval, encT_eq, inR_i64, i4, i2, hne]
      exact hrest i hi hne
  case pos =>
  have h3n : ¬ (lendA s i = s.size ∨ byteAt s (lendA s i) ≠ 40) := by
    unfold bracket at h3
    rw [Bool.and_eq_true, decide_eq_true_eq, decide_eq_true_eq, hus2] at h3
    have hbt := byteN_tail (s := s) (i := i + n0) (k := 0) (by omega)
    rw [hn0]
    intro h
    rcases h with h | h
    · omega
    · exact h (by rw [Nat.add_zero] at hbt; rw [← hbt]; exact h3.2)
  by_cases h4 : isVar nm = true
  · rw [rd_form h0 (by rw [hn0, hnm]; exact h1) h2 h3n (by rw [hn0, hnm]; exact h4)] at hok hpan
    repeat' (first | (with_reducible first | refine Wa ?_ | refine Wb ?_ | refine Wc ?_ | refine Wd ?_ | refine We ?_ | refine Wf ?_ | refine Wg ?_ | refine Wh ?_ | refine Wi ?_ | refine Wj ?_ | refine Wk (by decide) ?_ | refine Wl ?_ | refine Wm ?_ | refine Wn ?_) | refine CallG.mk _ (name_a nm) ?_ | refine CallG.mk _ (hasPrefix_a (tailS s (i + n0))) ?_ | refine CallG.mk _ (variable_a nm) ?_ | ((with_reducible first | refine Wx rfl (fun K hK => ?_) | refine Wp ?_ | refine Wq ?_ | refine Wr ?_); (try simp only [go_sem, List.forall_mem_nil, ↓guard_ite, ↓pick_ite, seval, encT_eq, inR_i64, v0, v2, v3, t2, t4, t900, tb, q1, hext, hdr, h1, h2i, h3, h4, e4, d4, e2, d2, decide_eq_true_eq, decide_eq_false_iff_not, Int.ofNat_lt]); (repeat with_reducible refine And.intro (by first | omega | (with_reducible first | exact lens_encT | exact lens_encL | exact lens_encB | exact lens_encP) | (simp; done) | (simp only [List.length_take, List.length_map, List.length_append, maxLen_eq]; omega)) ?_); (try (with_reducible refine hK _ ?_; clear hK K)); (try with_reducible refine ite_conj ?_)))
    refine IWP.opsPan 1 _ rfl (by kernel_rfl) ?_
    simp only [go_sem, List.forall_mem_nil, ↓guard_ite, ↓pick_ite, seval, encT_eq, inR_i64, PanAt, List.take_succ_cons, List.take_zero]
    intro envP
    repeat' (with_reducible first | refine Wy ?_ | refine Wz ?_ | refine Wv ?_)
    refine hpan (by show ¬ (2 : Int) = 0; decide) _ (panEnd_box (u := tailS s (i + n0)) (l := 200 - k - 1) ?_ fun i hi hne => ?_)
    · simp only [go_sem, List.forall_mem_nil, ↓guard_ite, ↓pick_ite, seval, encT_eq, inR_i64, tb, e4, hdr]
    · have i4 : ¬ i = 4 := by omega
      simp only [go_sem, List.forall_mem_nil, ↓guard_ite, ↓pick_ite, seval, encT_eq, inR_i64, i4, hne]
      exact hrest i hi hne
  rw [rd_args h0 (by rw [hn0, hnm]; exact h1) h2 h3n (by rw [hn0, hnm]; exact h4), hn0, hnm] at hok hpan
  have hlt0 : i + n0 < s.size := by
    have : lendA s i ≠ s.size := fun h => h3n (.inl h)
    omega
  have hf0 : 2 * (s.size - (i + n0)) ≤ f := by omega
  generalize i + n0 = to at *
  repeat' (first | (with_reducible first | refine Wa ?_ | refine Wb ?_ | refine Wc ?_ | refine Wd ?_ | refine We ?_ | refine Wf ?_ | refine Wg ?_ | refine Wh ?_ | refine Wi ?_ | refine Wj ?_ | refine Wk (by decide) ?_ | refine Wl ?_ | refine Wm ?_ | refine Wn ?_) | refine CallG.mk _ (name_a nm) ?_ | refine CallG.mk _ (hasPrefix_a (tailS s to)) ?_ | refine CallG.mk _ (variable_a nm) ?_ | ((with_reducible first | refine Wx rfl (fun K hK => ?_) | refine Wp ?_ | refine Wq ?_ | refine Wr ?_); (try simp only [go_sem, List.forall_mem_nil, ↓guard_ite, ↓pick_ite, seval, encT_eq, inR_i64, v0, v2, v3, t2, t4, t900, tb, q1, hext, hdr, h1, h2i, h3, h4, e4, d4, e2, d2, decide_eq_true_eq, decide_eq_false_iff_not, Int.ofNat_lt]); (repeat with_reducible refine And.intro (by first | omega | (with_reducible first | exact lens_encT | exact lens_encL | exact lens_encB | exact lens_encP) | (simp; done) | (simp only [List.length_take, List.length_map, List.length_append, maxLen_eq]; omega)) ?_); (try (with_reducible refine hK _ ?_; clear hK K)); (try with_reducible refine ite_conj ?_)))
  generalize hr : rdA s f nm [] to (k + 1) = r at hok hpan
  refine IWP.ghost (Ghost.ownC 4 1 900 24 2 (xs := ([] : List Tm).map encT) (by simp only [go_sem, List.forall_mem_nil, ↓guard_ite, ↓pick_ite, seval, encT_eq, inR_i64, e4, d4, e2, d2, t4]; rfl) rfl (by simp only [go_sem, List.forall_mem_nil, ↓guard_ite, ↓pick_ite, seval, encT_eq, inR_i64, t900, d900, e900]) lens_encT) ?_
  refine IWP.loop (fun m x => ∃ (acc : List Tm) (j c : Nat) (more : Bool), TInv s r f nm acc j c more ∧ m = s.size - j ∧ c ≤ 200 ∧ acc.length ≤ c ∧ x.env 0 = .one (.ptr b 1 0 0) ∧ x.env 2 = .one (.ptr 2 1 0 0) ∧ x.env 4 = .one (.ptr 4 1 0 0) ∧ x.env 5 = aBool more ∧ x.S 2 = some boxT0r ∧ x.S 4 = some (.box 24 [.st (.str nm), .row 900 acc.length]) ∧ x.S 900 = some (.arow 24 2 (acc.map encT)) ∧ x.S b = some (boxR (tailS s j) (200 - c)) ∧ ∀ i, 1000 ≤ i → i ≠ b → x.S i = S i)
    (s.size - to) ⟨[], to, k + 1, true, .inl ⟨rfl, f, hr.symm, hf0, Nat.le_refl _, hlt0⟩, rfl, by omega, by simp, ?_⟩ ?_
  · simp only [go_sem, List.forall_mem_nil, ↓guard_ite, ↓pick_ite, seval, encT_eq, inR_i64, v0, v2, v3, t2, t4, t900, tb, e4, d4, e2, d2, e900, d900]
    refine ⟨rfl, by rw [show (200 : Int) - ((k + 1 : Nat) : Int) = 200 - k - 1 by omega], fun i' hi' hne' => ?_⟩
    have i4 : ¬ i' = 4 := by omega
    have i900 : ¬ i' = 900 := by omega
    simp only [go_sem, List.forall_mem_nil, ↓guard_ite, ↓pick_ite, seval, encT_eq, inR_i64, i4, i900, hne']
    exact hrest i' hi' hne'
  clear hr hf0 hlt0 v0 v2 v3 t2 t4 t900 tb hrest hext hdr hnm h3 h3n hus2 hin0 hq
  rintro m ⟨env, S2⟩ ⟨acc, j, c, more, hinv, rfl, hc, hac, v0, v2, v4, v5, t2, t4, t900, tb, hrest⟩
  simp only at v0 v2 v4 v5 t2 t4 t900 tb hrest
  have hal : (acc.map encT).length = acc.length := List.length_map _
  have husj := tail_size s j
  rcases hinv with ⟨rfl, g, hr, hg, hgf, hj⟩ | ⟨rfl, hr, hj⟩
  · have hdr := tail_drop (s := s) (i := j) (n := 1) (by omega)
    obtain ⟨g, rfl⟩ : ∃ g', g = g' + 1 := ⟨g - 1, by omega⟩
    have hcall := fun S' (h : S' (up1 b) = some (boxR (tailS s (j + 1)) (200 - c))) => ih g (by omega) (j + 1) c (by omega) hc (by omega) (up1 b) S' (up1_le b) h
    have hq := rd_ok s g (j + 1) c (by omega) hc (by omega)
    have hqle := hq.le
    have hqin := hq.in_
    by_cases he : (rd s g (j + 1) c).e = 0
    case neg =>
      rw [rdA_bad he] at hr
      repeat' (first | (with_reducible first | refine Wa ?_ | refine Wb ?_ | refine Wc ?_ | refine Wd ?_ | refine We ?_ | refine Wf ?_ | refine Wg ?_ | refine Wh ?_ | refine Wi ?_ | refine Wj ?_ | refine Wk (by decide) ?_ | refine Wl ?_ | refine Wm ?_ | refine Wn ?_) | (first | refine IWP.opsPan 3 ⟨some 90, none, .callS 27 [.t 89], .keeps [4, 4]⟩ rfl (by kernel_rfl) ?_) | ((with_reducible first | refine Wx rfl (fun K hK => ?_) | refine Wp ?_ | refine Wq ?_ | refine Wr ?_); (try simp only [go_sem, List.forall_mem_nil, ↓guard_ite, ↓pick_ite, seval, encT_eq, inR_i64, v0, v2, v4, v5, t2, t4, t900, tb, hdr, e4, d4, e2, d2, e900, d900, decide_eq_true_eq, decide_eq_false_iff_not, Int.ofNat_lt]); (repeat with_reducible refine And.intro (by first | omega | (with_reducible first | exact lens_encT | exact lens_encL | exact lens_encB | exact lens_encP) | (simp; done) | (simp only [List.length_take, List.length_map, List.length_append, maxLen_eq]; omega)) ?_); (try (with_reducible refine hK _ ?_; clear hK K)); (try with_reducible refine ite_conj ?_)))
      simp only [go_sem, List.forall_mem_nil, ↓guard_ite, ↓pick_ite, seval, encT_eq, inR_i64, PanAt, List.take_succ_cons, List.take_zero, v0, v2, v4, v5, t2, t4, t900, tb, hdr, e4, d4, e2, d2, e900, d900]
      subst hr
      refine ⟨_, _, (hcall _ (by rw [upS_up, updE_same]; rfl)).2 he, fun envP => ?_⟩
      repeat' (with_reducible first | refine Wy ?_ | refine Wz ?_ | refine Wv ?_)
      refine hpan he _ ⟨.inr ?_, fun i hi hne => ?_⟩
      · simp only [go_sem, List.forall_mem_nil, ↓guard_ite, ↓pick_ite, seval, encT_eq, inR_i64]
      · simp only [go_sem, List.forall_mem_nil, ↓guard_ite, ↓pick_ite, seval, encT_eq, inR_i64, hne]
        exact hrest i hi hne
    case pos =>
    obtain ⟨o1, o2, o3, o4⟩ := hq.ok he
    have husq := tail_size s (rd s g (j + 1) c).i
    have hnq := tail_nil hqin
    repeat' (first | (with_reducible first | refine Wa ?_ | refine Wb ?_ | refine Wc ?_ | refine Wd ?_ | refine We ?_ | refine Wf ?_ | refine Wg ?_ | refine Wh ?_ | refine Wi ?_ | refine Wj ?_ | refine Wk (by decide) ?_ | refine Wl ?_ | refine Wm ?_ | refine Wn ?_) | ((with_reducible first | refine Wx rfl (fun K hK => ?_) | refine Wp ?_ | refine Wq ?_ | refine Wr ?_); (try simp only [go_sem, List.forall_mem_nil, ↓guard_ite, ↓pick_ite, seval, encT_eq, inR_i64, v0, v2, v4, v5, t2, t4, t900, tb, hdr, e4, d4, e2, d2, e900, d900, decide_eq_true_eq, decide_eq_false_iff_not, Int.ofNat_lt]); (repeat with_reducible refine And.intro (by first | omega | (with_reducible first | exact lens_encT | exact lens_encL | exact lens_encB | exact lens_encP) | (simp; done) | (simp only [List.length_take, List.length_map, List.length_append, maxLen_eq]; omega)) ?_); (try (with_reducible refine hK _ ?_; clear hK K)); (try with_reducible refine ite_conj ?_)))
    refine ⟨_, _, (hcall _ (by rw [upS_up, updE_same]; rfl)).1 he, ?_⟩
    have c1 := fun h => hr.trans (rdA_short (n := nm) (acc := acc) he h)
    have c2 := fun h h' => hr.trans (rdA_close (n := nm) (acc := acc) he h h')
    have c3 := fun h h' h'' => hr.trans (rdA_on (n := nm) (acc := acc) he h h' h'')
    have c4 := fun h h' h'' => hr.trans (rdA_word (n := nm) (acc := acc) he h h' h'')
    clear hcall ih hr
    generalize rd s g (j + 1) c = q at *
    have hal2 : acc.length + 1 ≤ 1000000 := by omega
    by_cases q1 : q.i = s.size
    · have hq1 := hnq.2 q1
      rw [c1 q1] at hpan
      repeat' (first | (with_reducible first | refine Wa ?_ | refine Wb ?_ | refine Wc ?_ | refine Wd ?_ | refine We ?_ | refine Wf ?_ | refine Wg ?_ | refine Wh ?_ | refine Wi ?_ | refine Wj ?_ | refine Wk (by decide) ?_ | refine Wl ?_ | refine Wm ?_ | refine Wn ?_) | ((with_reducible first | refine Wx rfl (fun K hK => ?_) | refine Wp ?_ | refine Wq ?_ | refine Wr ?_); (try simp only [go_sem, List.forall_mem_nil, ↓guard_ite, ↓pick_ite, seval, encT_eq, inR_i64, v0, v2, v4, v5, t2, t4, t900, tb, hdr, e4, d4, e2, d2, e900, d900, hal, hq1, decide_eq_true_eq, decide_eq_false_iff_not, Int.ofNat_lt]); (repeat with_reducible refine And.intro (by first | omega | (with_reducible first | exact lens_encT | exact lens_encL | exact lens_encB | exact lens_encP) | (simp; done) | (simp only [List.length_take, List.length_map, List.length_append, maxLen_eq]; omega)) ?_); (try (with_reducible refine hK _ ?_; clear hK K)); (try with_reducible refine ite_conj ?_)))
      refine IWP.opsPan 1 _ rfl (by kernel_rfl) ?_
      simp only [go_sem, List.forall_mem_nil, ↓guard_ite, ↓pick_ite, seval, encT_eq, inR_i64, PanAt, List.take_succ_cons, List.take_zero]
      intro envP
      repeat' (with_reducible first | refine Wy ?_ | refine Wz ?_ | refine Wv ?_)
      refine hpan (by show ¬ (13 : Int) = 0; decide) _ (panEnd_box (u := tailS s q.i) (l := 200 - q.k) ?_ fun i hi hne => ?_)
      · simp only [go_sem, List.forall_mem_nil, ↓guard_ite, ↓pick_ite, seval, encT_eq, inR_i64, e4, e900, hq1]
      · have i4 : ¬ i = 4 := by omega
        have i900 : ¬ i = 900 := by omega
        simp only [go_sem, List.forall_mem_nil, ↓guard_ite, ↓pick_ite, seval, encT_eq, inR_i64, i4, i900, hne]
        exact hrest i hi hne
    have hq1 : ¬ tailS s q.i = ⟨#[]⟩ := fun h => q1 (hnq.1 h)
    have hbt := byteN_tail (s := s) (i := q.i) (k := 0) (by omega)
    rw [Nat.add_zero] at hbt
    by_cases q2 : byteN (tailS s q.i) 0 = 41
    · have hr := c2 q1 (by rw [← hbt]; exact q2)
      repeat' (first | (with_reducible first | refine Wa ?_ | refine Wb ?_ | refine Wc ?_ | refine Wd ?_ | refine We ?_ | refine Wf ?_ | refine Wg ?_ | refine Wh ?_ | refine Wi ?_ | refine Wj ?_ | refine Wk (by decide) ?_ | refine Wl ?_ | refine Wm ?_ | refine Wn ?_) | ((with_reducible first | refine Wx rfl (fun K hK => ?_) | refine Wp ?_ | refine Wq ?_ | refine Wr ?_); (try simp only [go_sem, List.forall_mem_nil, ↓guard_ite, ↓pick_ite, seval, encT_eq, inR_i64, v0, v2, v4, v5, t2, t4, t900, tb, hdr, e4, d4, e2, d2, e900, d900, hal, hq1, q2, decide_eq_true_eq, decide_eq_false_iff_not, Int.ofNat_lt]); (repeat with_reducible refine And.intro (by first | omega | (with_reducible first | exact lens_encT | exact lens_encL | exact lens_encB | exact lens_encP) | (simp; done) | (simp only [List.length_take, List.length_map, List.length_append, maxLen_eq]; omega)) ?_); (try (with_reducible refine hK _ ?_; clear hK K)); (try with_reducible refine ite_conj ?_)))
      refine then_normal ⟨s.size - q.i, by omega, acc ++ [q.t], q.i, q.k, false, .inr ⟨rfl, hr, by omega⟩, rfl, o2, by simp; omega, ?_⟩
      simp only [go_sem, List.forall_mem_nil, ↓guard_ite, ↓pick_ite, seval, encT_eq, inR_i64, v0, v2, v4, v5, t2, t4, t900, tb, e4, d4, e2, d2, e900, d900, hal]
      refine ⟨by rw [encT_snoc], fun i hi hne => ?_⟩
      have i4 : ¬ i = 4 := by omega
      have i900 : ¬ i = 900 := by omega
      simp only [go_sem, List.forall_mem_nil, ↓guard_ite, ↓pick_ite, seval, encT_eq, inR_i64, i4, i900, hne]
      exact hrest i hi hne
    by_cases q3 : byteN (tailS s q.i) 0 = 44
    · have hr := c3 q1 (by rw [← hbt]; exact q2) (by rw [← hbt]; exact q3)
      repeat' (first | (with_reducible first | refine Wa ?_ | refine Wb ?_ | refine Wc ?_ | refine Wd ?_ | refine We ?_ | refine Wf ?_ | refine Wg ?_ | refine Wh ?_ | refine Wi ?_ | refine Wj ?_ | refine Wk (by decide) ?_ | refine Wl ?_ | refine Wm ?_ | refine Wn ?_) | ((with_reducible first | refine Wx rfl (fun K hK => ?_) | refine Wp ?_ | refine Wq ?_ | refine Wr ?_); (try simp only [go_sem, List.forall_mem_nil, ↓guard_ite, ↓pick_ite, seval, encT_eq, inR_i64, v0, v2, v4, v5, t2, t4, t900, tb, hdr, e4, d4, e2, d2, e900, d900, hal, hq1, q2, q3, decide_eq_true_eq, decide_eq_false_iff_not, Int.ofNat_lt]); (repeat with_reducible refine And.intro (by first | omega | (with_reducible first | exact lens_encT | exact lens_encL | exact lens_encB | exact lens_encP) | (simp; done) | (simp only [List.length_take, List.length_map, List.length_append, maxLen_eq]; omega)) ?_); (try (with_reducible refine hK _ ?_; clear hK K)); (try with_reducible refine ite_conj ?_)))
      refine then_normal ⟨s.size - q.i, by omega, acc ++ [q.t], q.i, q.k, true, .inl ⟨rfl, g, hr, by omega, by omega, by omega⟩, rfl, o2, by simp; omega, ?_⟩
      simp only [go_sem, List.forall_mem_nil, ↓guard_ite, ↓pick_ite, seval, encT_eq, inR_i64, v0, v2, v4, v5, t2, t4, t900, tb, e4, d4, e2, d2, e900, d900, hal]
      refine ⟨by rw [encT_snoc], fun i hi hne => ?_⟩
      have i4 : ¬ i = 4 := by omega
      have i900 : ¬ i = 900 := by omega
      simp only [go_sem, List.forall_mem_nil, ↓guard_ite, ↓pick_ite, seval, encT_eq, inR_i64, i4, i900, hne]
      exact hrest i hi hne
    · rw [c4 q1 (by rw [← hbt]; exact q2) (by rw [← hbt]; exact q3)] at hpan
      repeat' (first | (with_reducible first | refine Wa ?_ | refine Wb ?_ | refine Wc ?_ | refine Wd ?_ | refine We ?_ | refine Wf ?_ | refine Wg ?_ | refine Wh ?_ | refine Wi ?_ | refine Wj ?_ | refine Wk (by decide) ?_ | refine Wl ?_ | refine Wm ?_ | refine Wn ?_) | ((with_reducible first | refine Wx rfl (fun K hK => ?_) | refine Wp ?_ | refine Wq ?_ | refine Wr ?_); (try simp only [go_sem, List.forall_mem_nil, ↓guard_ite, ↓pick_ite, seval, encT_eq, inR_i64, v0, v2, v4, v5, t2, t4, t900, tb, hdr, e4, d4, e2, d2, e900, d900, hal, hq1, q2, q3, decide_eq_true_eq, decide_eq_false_iff_not, Int.ofNat_lt]); (repeat with_reducible refine And.intro (by first | omega | (with_reducible first | exact lens_encT | exact lens_encL | exact lens_encB | exact lens_encP) | (simp; done) | (simp only [List.length_take, List.length_map, List.length_append, maxLen_eq]; omega)) ?_); (try (with_reducible refine hK _ ?_; clear hK K)); (try with_reducible refine ite_conj ?_)))
      refine IWP.opsPan 1 _ rfl (by kernel_rfl) ?_
      simp only [go_sem, List.forall_mem_nil, ↓guard_ite, ↓pick_ite, seval, encT_eq, inR_i64, PanAt, List.take_succ_cons, List.take_zero]
      intro envP
      repeat' (with_reducible first | refine Wy ?_ | refine Wz ?_ | refine Wv ?_)
      refine hpan (by show ¬ (12 : Int) = 0; decide) _ (panEnd_box (u := tailS s q.i) (l := 200 - q.k) ?_ fun i hi hne => ?_)
      · simp only [go_sem, List.forall_mem_nil, ↓guard_ite, ↓pick_ite, seval, encT_eq, inR_i64, e4, e900]
      · have i4 : ¬ i = 4 := by omega
        have i900 : ¬ i = 900 := by omega
        simp only [go_sem, List.forall_mem_nil, ↓guard_ite, ↓pick_ite, seval, encT_eq, inR_i64, i4, i900, hne]
        exact hrest i hi hne
  · have hdr := tail_drop (s := s) (i := j) (n := 1) (by omega)
    subst hr
    repeat' (first | (with_reducible first | refine Wa ?_ | refine Wb ?_ | refine Wc ?_ | refine Wd ?_ | refine We ?_ | refine Wf ?_ | refine Wg ?_ | refine Wh ?_ | refine Wi ?_ | refine Wj ?_ | refine Wk (by decide) ?_ | refine Wl ?_ | refine Wm ?_ | refine Wn ?_) | ((with_reducible first | refine Wx rfl (fun K hK => ?_) | refine Wp ?_ | refine Wq ?_ | refine Wr ?_); (try simp only [go_sem, List.forall_mem_nil, ↓guard_ite, ↓pick_ite, seval, encT_eq, inR_i64, v0, v2, v4, v5, t2, t4, t900, tb, hdr, e4, d4, e2, d2, e900, d900, decide_eq_true_eq, decide_eq_false_iff_not, Int.ofNat_lt]); (repeat with_reducible refine And.intro (by first | omega | (with_reducible first | exact lens_encT | exact lens_encL | exact lens_encB | exact lens_encP) | (simp; done) | (simp only [List.length_take, List.length_map, List.length_append, maxLen_eq]; omega)) ?_); (try (with_reducible refine hK _ ?_; clear hK K)); (try with_reducible refine ite_conj ?_)))
    refine hok rfl _ ⟨.agg [.st (.str nm), .row 900 acc.length], ?_, ?_, ?_, fun i hi hne => ?_⟩
    · simp only [go_sem, List.forall_mem_nil, ↓guard_ite, ↓pick_ite, seval, encT_eq, inR_i64, resAll, resOne, tupV, v0, v2, v4, t2, t4, t900, tb, e4, d4, e2, d2, e900, d900]
    · simp only [go_sem, List.forall_mem_nil, ↓guard_ite, ↓pick_ite, seval, encT_eq, inR_i64, t900, e900, d900, hal]
      rfl
    · simp only [go_sem, List.forall_mem_nil, ↓guard_ite, ↓pick_ite, seval, encT_eq, inR_i64, tb, e4, e2, e900, hdr]
    · have i2 : ¬ i = 2 := by omega
      simp only [go_sem, List.forall_mem_nil, ↓guard_ite, ↓pick_ite, seval, encT_eq, inR_i64, i2, hne]
      exact hrest i hi hne
end Go.Proofs.Ytohgkbgpcnmdpaa

namespace Go.Proofs.Ytohgkbgpcnmdpaa
open Go Go.RowKit
set_option linter.unusedVariables false
set_option maxHeartbeats 400000
def Behind (S : AStore) (ι : AHnd) (σ : Sto) (w : World) (S' : AStore) (w' : World) : Prop := ∃ σ' ι', Clean S' ∧ Upd S ι S' ι' ∧ Owned σ' S' ι' w' ∧ Fit σ' w' ∧ (∀ p x, σ p = some x → σ' p = some x) ∧
  (∀ p : Addr, p.block < w.heap.size → notOf S ι p.block → σ' p = σ p) ∧ (w'.os = w.os ∧ w'.tape = w.tape ∧ w'.output = w.output) ∧ w.heap.size ≤ w'.heap.size ∧
  (∀ g, g < w.heap.size → notOf S ι g → w'.heap[g]? = w.heap[g]?) ∧ (∀ id b g, S' id = some b → (ι' id).g = some g → w.heap.size ≤ g ∨ ¬ notOf S ι g)
theorem Behind.refl {S : AStore} {ι : AHnd} {σ : Sto} {w : World} (h1 : Clean S) (h2 : Owned σ S ι w) (h3 : Fit σ w) : Behind S ι σ w S w :=
  ⟨σ, ι, h1, Upd.refl _ _, h2, h3, fun _ _ h => h, fun _ _ _ => rfl, ⟨rfl, rfl, rfl⟩, Nat.le_refl _, fun _ _ _ => rfl, fun id b g hb hg => .inr fun hn => hn id b hb hg⟩
def ADef (P : Program) (f : FuncId) (xs : List AV) (S : AStore) (u u' : FrameMode) (S' : AStore) : Prop :=
  Clean S → ∀ (σ : Sto) (w : World) (vs : List Value) (ι : AHnd), GlobIn σ → Fit σ w → Owned σ S ι w → All2 (VRep σ S ι) vs xs →
    CallsD P f vs.toArray u w fun e u1 w' => (∃ v, e = .returned v) ∧ u1 = u' ∧ Behind S ι σ w S' w'
section
variable {P : Program} {C : Ctx} {a : Act} {w : World} {σ : Sto} {ι : AHnd} {s : AS}
theorem owned_up (R : Refs C σ ι s a w) : Owned σ (upS s.S) (fun i => ι (dn1 i)) w := by
  have hup : ∀ i, dn1 (up1 i) = i := dn_up
  have hS : ∀ i b, s.S i = some b → upS s.S (up1 i) = some (b.ren up1) := fun i b hb => upS_some hb
  have hι : ∀ i b, s.S i = some b → (fun i => ι (dn1 i)) (up1 i) = ι i := fun i b _ => by show ι (dn1 (up1 i)) = _; rw [hup]
  refine ⟨fun id b hb => ?_, fun id id' b b' g h1 h2 g1 g2 => ?_⟩
  · obtain ⟨hle, b', h1, rfl⟩ := upS_inv hb
    exact BRep.ren (S2 := upS s.S) (ι2 := fun i => ι (dn1 i)) (ρ := up1) hS hι (R.blk _ _ h1)
  · obtain ⟨l1, c1, k1, _⟩ := upS_inv h1
    obtain ⟨l2, c2, k2, _⟩ := upS_inv h2
    have := R.inj _ _ _ _ g k1 k2 g1 g2
    rw [← up_dn l1, ← up_dn l2, this]
theorem val_up (R : Refs C σ ι s a w) {v : Value} {av : AV} (h : VRep σ s.S ι v av) : VRep σ (upS s.S) (fun i => ι (dn1 i)) v (av.ren up1) :=
  VRep.ren (S2 := upS s.S) (ι2 := fun i => ι (dn1 i)) (ρ := up1) (fun i b hb => upS_some hb) (fun i b _ => by show ι (dn1 (up1 i)) = _; rw [dn_up]) h
theorem behind_refs {S' : AStore} {w' : World} (R : Refs C σ ι s a w) (h : Behind (upS s.S) (fun i => ι (dn1 i)) σ w S' w') : Holds C ⟨s.env, dnS S'⟩ a w' := by
  obtain ⟨σ', ι', hclean, hupd, hown', hf', hkeep, hold, hos, hsz, hsame, hbase⟩ := h
  have hup : ∀ i, dn1 (up1 i) = i := dn_up
  have hS : ∀ i b, s.S i = some b → upS s.S (up1 i) = some (b.ren up1) := fun i b hb => upS_some hb
  have hSd : ∀ i b, S' i = some b → dnS S' (dn1 i) = some (b.ren dn1) := fun i b hb => dnS_some (hclean i b hb).1 hb
  obtain ⟨ι2, hι2⟩ : ∃ ι2 : AHnd, ∀ i, ι2 i = ι' (up1 i) := ⟨fun i => ι' (up1 i), fun _ => rfl⟩
  have hιd : ∀ i b, S' i = some b → ι2 (dn1 i) = ι' i := fun i b hb => by
    rw [hι2, up_dn (hclean i b hb).1]
  have hu : Upd s.S ι (dnS S') ι2 := fun id b hb => by
    obtain ⟨b', h1, h2, h3⟩ := hupd _ _ (hS id b hb)
    have h4 := hSd _ _ h1
    rw [hup] at h4
    refine ⟨_, h4, by rw [ren_len] at h2 ⊢; exact h2, fun hl => ?_⟩
    rw [ren_len] at hl
    obtain ⟨q1, q2⟩ := h3 (by rw [ren_len]; exact hl)
    refine ⟨by rw [ren_wid] at q1 ⊢; exact q1, ?_⟩
    rw [hι2, q2]
    show ι (dn1 (up1 id)) = _
    rw [hup]
  have hnot : ∀ g, g < C.N → ¬ C.G g → notOf (upS s.S) (fun i => ι (dn1 i)) g := fun g h1 h2 id b hb hg => by
    obtain ⟨_, b', k1, _⟩ := upS_inv hb
    rcases R.base _ _ g k1 hg with h | h
    · omega
    · exact h2 h
  refine ⟨σ', ι2, R.size, fun i hi => (R.env i hi).mono hkeep hu, R.nod, hf', fun id b hb => ?_, fun id id' b b' g h1 h2 g1 g2 => ?_, fun id b g hb hg => ?_, fun p x hx => hkeep _ _ (R.ext p x hx), fun p h1 h2 => ?_, ⟨hos.1.trans R.os.1, hos.2.1.trans R.os.2.1, hos.2.2.trans R.os.2.2⟩, ⟨Nat.le_trans R.grown.1 hsz, Nat.le_trans R.grown.2 hsz⟩, fun g h1 h2 => ?_, R.upd.trans hu⟩
  · obtain ⟨b', h1, rfl⟩ := dnS_inv hb
    have := BRep.ren (S2 := dnS S') (ι2 := ι2) (ρ := dn1) hSd hιd (hown'.1 _ _ h1)
    rw [hι2]
    exact this
  · obtain ⟨c1, k1, _⟩ := dnS_inv h1
    obtain ⟨c2, k2, _⟩ := dnS_inv h2
    rw [hι2] at g1 g2
    have := congrArg dn1 (hown'.2 _ _ _ _ g k1 k2 g1 g2)
    rw [hup, hup] at this
    exact this
  · obtain ⟨b', h1, _⟩ := dnS_inv hb
    rw [hι2] at hg
    rcases hbase _ _ g h1 hg with h2 | h2
    · exact .inl (by have := R.grown.1; omega)
    · by_cases hN : g < C.N
      · by_cases hG : C.G g
        · exact .inr hG
        · exact absurd (hnot g hN hG) h2
      · exact .inl (by omega)
  · exact (hold p (by have := R.grown.1; omega) (hnot _ h1 h2)).trans (R.old p h1 h2)
  · exact (hsame g (by have := R.grown.1; omega) (hnot g h1 h2)).trans (R.same g h1 h2)
theorem leaves_one {fn : Func} {g : FuncId} {vs : List Value} {avs : List AV} {u u' : FrameMode} {S' : AStore} {K : Ending → World → Prop} (R : Refs C σ ι s a w) (hpl : plainF P g = true) (hvs : All2 (VRep σ s.S ι) vs avs) (hu : u ≠ .run)
    (hd : ADef P g (AV.rens up1 avs) (upS s.S) u u' S') (hset : settle u' = .returning) (hfin : ∀ w', Holds C ⟨s.env, dnS S'⟩ a w' → ∃ v, (results fn a.tmps).run P w' = .ok v w' ∧ K (.returned v) w') :
    Leaves P fn a.tmps K [{ target := .fn (.func g) vs.toArray, args := #[] }] u w := by
  refine leaves_cons (f := g) (args := vs.toArray) hu ?_ ?_
  · have := run_enter (P := P) (w := w) (args := vs.toArray) hpl
    simpa [invoke] using this
  · have hargs : All2 (VRep σ (upS s.S) (fun i => ι (dn1 i))) vs (AV.rens up1 avs) := by
      rw [AV.rens_eq]
      exact (hvs.mono fun _ _ x => val_up R x).map_right
    refine (hd (clean_upS _) σ w vs _ (C.glob.mono R.ext) R.fit (owned_up R) hargs).mono fun e u1 w' he => ?_
    obtain ⟨⟨v, rfl⟩, rfl, hb⟩ := he
    dsimp only
    rw [hset]
    exact hfin w' (behind_refs R hb)
end
theorem run_assert_nil {P : Program} {w : World} {x t : TypeId} {k : IntKind} {z : Value} (hd : P.underlying t = some (.int k)) (hz : (P.info? t).bind (·.zero) = some z) : (Instr.typeAssert .nilIface x t true).run P w = .ok (.tuple #[z, .bool false]) w := by
  rw [Option.bind_eq_some_iff] at hz
  obtain ⟨i, hi, hz⟩ := hz
  unfold Instr.typeAssert
  simp [run_underlying hd, zeroValue, run_typeInfo w hi, hz]
theorem run_assert_hit {P : Program} {w : World} {x t : TypeId} {k : IntKind} {v : Value} (hd : P.underlying t = some (.int k)) : (Instr.typeAssert (.iface t v) x t true).run P w = .ok (.tuple #[v, .bool true]) w := by
  unfold Instr.typeAssert
  simp [run_underlying hd]
theorem behind_of {C : Ctx} {S : AStore} {ι : AHnd} {σ : Sto} {w w' : World} {s : AS} {a : Act} (hC : C.N = w.heap.size ∧ (C.G = fun g => ¬ notOf S ι g) ∧ C.σ0 = σ ∧ C.w0 = w ∧ C.S0 = S ∧ C.ι0 = ι) (hS : Clean s.S) (h : Holds C s a w') : Behind S ι σ w s.S w' := by
  obtain ⟨h1, h2, h3, h4, h5, h6⟩ := hC
  obtain ⟨σ', ι', R⟩ := h
  have ho := R.old
  have hu := R.upd
  have he := R.ext
  have hs := R.same
  have hb := R.base
  have hg := R.grown
  have hos := R.os
  rw [h1, h2] at ho hs hb
  rw [h3] at ho he
  rw [h4] at hs hg hos
  rw [h5, h6] at hu
  exact ⟨σ', ι', hS, hu, ⟨R.blk, R.inj⟩, R.fit, he, fun p q1 q2 => ho p q1 (fun h => h q2), hos, hg.2, fun g q1 q2 => hs g q1 (fun h => h q2), fun id b g q1 q2 => hb id b g q1 q2⟩
def EndD (P : Program) (g : FuncId) (avs : List AV) (rs : List RV) (r : AV) : AX → AS → Prop
  | .normal, s | .ret, s => ∃ S', ADef P g (AV.rens up1 avs) (upS s.S) .returning .returning S' ∧ (⟨s.env, dnS S'⟩ : AS).result rs = some r
  | .pan v, s => ∃ u' S', ADef P g (AV.rens up1 avs) (upS s.S) (.panicking [{ v := v, recovered := false }]) u' S' ∧ settle u' = .returning ∧ (⟨s.env, dnS S'⟩ : AS).result rs = some r
  | _, _ => False
def AS.up (s : AS) : AS := ⟨fun i => (s.env i).ren up1, upS s.S⟩
section
variable {P : Program}
theorem trCode_seq {n : Nat} {mu : List Nat} {c : Code} {x y : IR} (h : trCode P n mu c = some (.seq x y)) : ∃ c1 c2, c = .seq c1 c2 ∧ trCode P n mu c1 = some x ∧ trCode P n mu c2 = some y := by
  cases c <;> simp only [trCode] at h
  case seq c1 c2 =>
    split at h
    · rename_i x' y' e1 e2
      cases h
      exact ⟨c1, c2, rfl, e1, e2⟩
    · cases h
  all_goals (exfalso; revert h; (repeat' split) <;> simp)
def third : Code → Code
  | .seq _ (.seq _ (.seq d _)) => d
  | c => c
theorem acalls_defer {f : FuncId} {fn : Func} {mu : List Nat} {c : Code} {xA xB xD xE : IR} {rs : List RV} {xs : List AV} {r : AV} {g t id : Nat} {caps : Array Operand} {xs' : List Opd} {oM oF : Oper} {ts : Array TypeId}
    (hf : P.funcs[f]? = some fn) (hb : fn.body = some c) (hx : trCode P fn.ntmps mu c = some (.seq xA (.seq xB (.seq xD xE)))) (hr : trRes P fn.ntmps fn.results.toList = some rs) (hn : xs.length ≤ fn.ntmps)
    (hD : third c = .region id #[oM, oF] false) (hM1 : oM.op = .makeFunc (.func g) #[] caps) (hM2 : oM.dst = some t) (hM3 : oM.guard = none) (hF1 : oF.op = .defer { callee := .value (.tmp t), args := #[], argTypes := ts }) (hF2 : oF.dst = none) (hF3 : oF.guard = none) (ht : t < fn.ntmps)
    (hcaps : trOpds fn.ntmps caps.toList = some xs') (hpl : plainF P g = true)
    (h : ∀ C : Ctx, C.n = fn.ntmps → IWP P C mu xA (AX.then (fun s => IWP P C mu xB (AX.then (fun s => ∃ cs, s.caps xs' = some cs ∧ ∀ C' : Ctx, C'.n = fn.ntmps → IWP P C' mu xE (EndD P g (cs.map fun c => (AV.one c).ren up1) rs r) (s.put (some t) (.one (.fn g cs))).up) (FinQ rs r)) s) (FinQ rs r)) (AS.start xs)) : ACalls P f xs r := by
  intro σ w vs hglob hfit hvs
  have hl := hvs.len
  let C : Ctx := ⟨fn.ntmps, w.heap.size, fun _ => False, σ, w, noS, noH, fun i b h => by simp [noS] at h, hglob, []⟩
  obtain ⟨A, c2, rfl, hA, h2⟩ := trCode_seq hx
  obtain ⟨B, c3, rfl, hB, h3⟩ := trCode_seq h2
  obtain ⟨D, E, rfl, hD', hE⟩ := trCode_seq h3
  have hD : D = .region id #[oM, oF] false := hD
  subst hD
  refine calls_of_wp_defers hf hb ?_
  have R0 : Refs C σ noH (AS.start xs) { tmps := vs.toArray ++ Array.replicate (fn.ntmps - vs.toArray.size) undef, defers := [] } w := by
    refine ⟨by simp [C]; omega, fun i hi => ?_, rfl, hfit, fun id b h => by simp [AS.start, noS] at h, fun id id' b b' g h => by simp [AS.start, noS] at h, fun id b g h => by simp [AS.start, noS] at h, fun _ _ h => h, fun _ _ _ => rfl, ⟨rfl, rfl, rfl⟩, ⟨Nat.le_refl _, Nat.le_refl _⟩, fun _ _ _ => rfl, Upd.refl _ _⟩
    show VRep σ noS noH _ ((xs[i]?).getD (.tup []))
    rw [Array.getD_eq_getD_getElem?]
    by_cases hlt : i < vs.length
    · rw [Array.getElem?_append_left (by simpa using hlt)]
      obtain ⟨b, hb1, hb2⟩ := hvs.get' (List.getElem?_eq_getElem hlt)
      rw [hb1]
      simpa [hlt] using hb2
    · rw [Array.getElem?_append_right (by simp; omega), List.getElem?_eq_none (by omega)]
      have hi' : i < fn.ntmps := hi
      rw [Array.getElem?_replicate, if_pos (by simp; omega)]
      exact .tup (fun _ => undef) rfl (by simp) (by simp)
  have early : ∀ (s : AS) (a' : Act) (w' : World), s.result rs = some r → Holds C s a' w' → Leaves P fn a'.tmps (fun e w' => ∃ v σ', e = .returned v ∧ VRep σ' noS noH v r ∧ Fit σ' w' ∧ Ext w.heap.size σ σ' ∧ Below w.heap.size w w') a'.defers .returning w' := by
    intro s a' w' hs hH
    obtain ⟨σ', ι', R'⟩ := hH
    obtain ⟨v, v1, v2⟩ := res_val R' (fn := fn) hr hs
    have hnod : a'.defers = [] := R'.nod
    rw [hnod]
    exact ⟨v, v1, v, σ', rfl, v2, R'.fit, ⟨R'.ext, fun p hp => R'.old p hp (fun h => h)⟩, ⟨R'.os.1, R'.os.2.1, R'.os.2.2, R'.grown.2, fun k hk => R'.same k hk (fun h => h)⟩⟩
  refine wp_seq (wp_mono (h C rfl A hA _ w ⟨σ, noH, R0⟩) fun e a' w' he => ?_)
  cases e with
  | normal =>
    obtain ⟨s, hs, hH⟩ := he
    refine wp_seq (wp_mono (hs B hB a' w' hH) fun e a' w' he => ?_)
    cases e with
    | normal =>
      obtain ⟨s, ⟨cs, hcs, hwalk⟩, ⟨σ1, ι1, R⟩⟩ := he
      refine wp_seq ?_
      have rc := caps_rep R hcaps hcs
      have ecap : (caps.toList.map a'.eval).toArray = caps.map a'.eval := by rw [← Array.toList_map, Array.toArray_toList]
      have hv : VRep σ1 s.S ι1 (.func (.func g) #[] (caps.map a'.eval)) (.one (.fn g cs)) := by
        rw [← ecap]
        refine .one (.fn (fun j => ((caps.toList.map a'.eval)[j]?).getD undef) (by simpa using rc.len) (fun j b hb => ?_) (fun j b hb => ?_))
        · obtain ⟨v, v1, v2⟩ := rc.get hb
          rw [v1]
          simpa using v1
        · obtain ⟨v, v1, v2⟩ := rc.get hb
          rw [v1]
          exact v2
      have rf : (execOp a'.eval oM).run P w' = .ok (.value (.func (.func g) #[] (caps.map a'.eval))) w' := by
        simp [execOp, hM1, Instr.makeFunc]
      have R1 := R.put (d := some t) hv
      have hta : t < a'.tmps.size := Nat.lt_of_lt_of_le ht R.size
      have hev : (a'.put (some t) (.func (.func g) #[] (caps.map a'.eval))).eval (.tmp t) = .func (.func g) #[] (caps.map a'.eval) := by
        simp [Act.eval, Act.put, hta]
      have rF : (execOp (a'.put (some t) (.func (.func g) #[] (caps.map a'.eval))).eval oF).run P w' = .ok (.defer { target := .fn (.func g) (caps.map a'.eval), args := #[] }) w' := by
        simp [execOp, hF1, resolve, hev, Deferred.ofValue]
      refine wp_region ?_
      show wpOps P #[oM, oF] _ [0, 1] a' w'
      rw [wpOps_cons]
      show (if Region.wanted oM _ then _ else _)
      rw [if_pos (by simp [Region.wanted, hM3])]
      refine .inl ?_
      show Oper.wp P oM a' w' _ _
      unfold Oper.wp
      rw [rf, Oper.upon_value, hM2, wpOps_cons]
      show (if Region.wanted oF _ then _ else _)
      rw [if_pos (by simp [Region.wanted, hF3])]
      refine .inl ?_
      show Oper.wp P oF _ w' _ _
      unfold Oper.wp
      rw [rF, Oper.upon_defer, hF2]
      let C' : Ctx := ⟨fn.ntmps, w.heap.size, fun _ => False, σ1, w', upS s.S, fun i => ι1 (dn1 i), clean_upS _, hglob.mono R.ext, [{ target := .fn (.func g) (caps.toList.map a'.eval).toArray, args := #[] }]⟩
      have hnod0 : a'.defers = [] := R.nod
      have RC : Refs C' σ1 (fun i => ι1 (dn1 i)) (s.put (some t) (.one (.fn g cs))).up { a'.put (some t) (.func (.func g) #[] (caps.map a'.eval)) with defers := { target := .fn (.func g) (caps.map a'.eval), args := #[] } :: (a'.put (some t) (.func (.func g) #[] (caps.map a'.eval))).defers } w' := by
        refine ⟨R1.size, fun i hi => val_up R1 (R1.env i hi), ?_, R1.fit, (owned_up R1).1, (owned_up R1).2, fun id b g hb hg => ?_, fun _ _ h => h, fun _ _ _ => rfl, ⟨rfl, rfl, rfl⟩, ⟨R.grown.1, Nat.le_refl _⟩, fun _ _ _ => rfl, Upd.refl _ _⟩
        · show _ :: a'.defers = _
          rw [hnod0, ← ecap]
        · obtain ⟨_, b', k1, _⟩ := upS_inv hb
          exact R1.base _ _ g k1 hg
      have hvs1 : All2 (VRep σ1 (upS s.S) (fun i => ι1 (dn1 i))) (caps.toList.map a'.eval) (cs.map fun c => (AV.one c).ren up1) := (rc.mono fun _ _ x => val_up R (.one x)).map_right
      have fin : ∀ (s4 : AS) (a4 : Act) (w4 : World), s4.result rs = some r → Holds C' s4 a4 w4 → ∃ v, (results fn a4.tmps).run P w4 = .ok v w4 ∧ ∃ v1 σ', Ending.returned v = .returned v1 ∧ VRep σ' noS noH v1 r ∧ Fit σ' w4 ∧ Ext w.heap.size σ σ' ∧ Below w.heap.size w w4 := fun s4 a4 w4 hs4 hH4 => by
        obtain ⟨σ4, ι4, R4⟩ := hH4
        obtain ⟨v, v1, v2⟩ := res_val R4 (fn := fn) hr hs4
        exact ⟨v, v1, v, σ4, rfl, v2, R4.fit, ⟨fun p x hp => R4.ext p x (R.ext p x hp), fun p hp => (R4.old p hp (fun h => h)).trans (R.old p hp (fun h => h))⟩, ⟨R4.os.1.trans R.os.1, R4.os.2.1.trans R.os.2.1, R4.os.2.2.trans R.os.2.2, Nat.le_trans R.grown.2 R4.grown.2, fun k hk => (R4.same k hk (fun h => h)).trans (R.same k hk (fun h => h))⟩⟩
      refine wp_mono (hwalk C' rfl E hE _ w' ⟨σ1, _, RC⟩) fun e a3 w3 he => ?_
      cases e with
      | normal =>
        obtain ⟨s3, ⟨S', hdef, hres⟩, ⟨σ3, ι3, R3⟩⟩ := he
        show Leaves P fn a3.tmps _ a3.defers .returning w3
        rw [R3.nod]
        exact leaves_one R3 hpl (hvs1.mono fun _ _ x => x.mono R3.ext R3.upd) (by simp) hdef rfl fun w4 hH4 => fin _ _ _ hres hH4
      | ret =>
        obtain ⟨s3, ⟨S', hdef, hres⟩, ⟨σ3, ι3, R3⟩⟩ := he
        show Leaves P fn a3.tmps _ a3.defers .returning w3
        rw [R3.nod]
        exact leaves_one R3 hpl (hvs1.mono fun _ _ x => x.mono R3.ext R3.upd) (by simp) hdef rfl fun w4 hH4 => fin _ _ _ hres hH4
      | exit id =>
        obtain ⟨s3, h3, _⟩ := he
        exact h3.elim
      | panic ch =>
        obtain ⟨s3, v, ⟨⟨u', S', hdef, hset, hres⟩, rfl⟩, ⟨σ3, ι3, R3⟩⟩ := he
        show Leaves P fn a3.tmps _ a3.defers (.panicking _) w3
        rw [R3.nod]
        exact leaves_one R3 hpl (hvs1.mono fun _ _ x => x.mono R3.ext R3.upd) (by simp) hdef hset fun w4 hH4 => fin _ _ _ hres hH4
      | goto l => exact he.elim
      | outgrown => exact he.elim
    | ret =>
      obtain ⟨s, h1, h2⟩ := he
      exact early s _ _ (show FinQ rs r .ret s from h1).2 h2
    | exit id =>
      obtain ⟨s, h1, h2⟩ := he
      exact (show FinQ rs r (.exit id) s from h1).1.elim
    | panic ch =>
      obtain ⟨s, v, h1, h2⟩ := he
      exact (show FinQ rs r (.pan v) s from h1.1).1.elim
    | goto l => exact he.elim
    | outgrown => exact he.elim
  | ret =>
    obtain ⟨s, h1, h2⟩ := he
    exact early s _ _ (show FinQ rs r .ret s from h1).2 h2
  | exit id =>
    obtain ⟨s, h1, h2⟩ := he
    exact (show FinQ rs r (.exit id) s from h1).1.elim
  | panic ch =>
    obtain ⟨s, v, h1, h2⟩ := he
    exact (show FinQ rs r (.pan v) s from h1.1).1.elim
  | goto l => exact he.elim
  | outgrown => exact he.elim
end
end Go.Proofs.Ytohgkbgpcnmdpaa

namespace Go.Proofs.Ytohgkbgpcnmdpaa
open Go Go.RowKit
set_option linter.unusedVariables false
set_option linter.unusedSimpArgs false
set_option maxHeartbeats 1600000
def envR (b c : Nat) (n : Int) (ok : Bool) : Nat → AV
  | 0 => .one (.ptr b 1 0 0)
  | 1 => .one (.ptr c 1 0 0)
  | 2 => aInt n
  | 3 => aBool ok
  | _ => .any
theorem holdsR {b c : Nat} {n : Int} {ok : Bool} {S : AStore} {σ : Sto} {ι : AHnd} {w : World} {v1 v2 : Value} {a : Act} (hclean : Clean S) (hglob : GlobIn σ) (hfit : Fit σ w) (hown : Owned σ S ι w) (h1 : VRep σ S ι v1 (.one (.ptr b 1 0 0))) (h2 : VRep σ S ι v2 (.one (.ptr c 1 0 0))) (hn : inR .i64 n)
    (hs : 12 ≤ a.tmps.size) (g0 : a.tmps.getD 0 undef = v1) (g1 : a.tmps.getD 1 undef = v2) (g2 : a.tmps.getD 2 undef = .int .i64 n) (g3 : a.tmps.getD 3 undef = .bool ok) (hd : a.defers = []) :
    Holds ⟨12, w.heap.size, fun g => ¬ notOf S ι g, σ, w, S, ι, hclean, hglob, []⟩ ⟨envR b c n ok, S⟩ a w := by
  refine ⟨σ, ι, hs, fun i hi => ?_, hd, hfit, hown.1, hown.2, fun id b g h hg => .inr (fun hno => hno id b h hg), fun _ _ h => h, fun _ _ _ => rfl, ⟨rfl, rfl, rfl⟩, ⟨Nat.le_refl _, Nat.le_refl _⟩, fun _ _ _ => rfl, Upd.refl _ _⟩
  match i with
  | 0 => rw [g0]; exact h1
  | 1 => rw [g1]; exact h2
  | 2 => rw [g2]; exact .one (.st (.int hn))
  | 3 => rw [g3]; exact .one (.st .bool)
  | _ + 4 => exact .any
set_option maxRecDepth 100000 in
theorem parse1_idle (b c : Nat) (S : AStore) : ADef Try.prog 26 [.one (.ptr b 1 0 0), .one (.ptr c 1 0 0)] S .returning .returning S := by
  intro hclean σ w vs ι hglob hfit hown hvs
  obtain ⟨v1, v2, rfl, r1, r2⟩ : ∃ v1 v2, vs = [v1, v2] ∧ VRep σ S ι v1 (.one (.ptr b 1 0 0)) ∧ VRep σ S ι v2 (.one (.ptr c 1 0 0)) := by
    cases hvs with
    | cons h1 hvs => cases hvs with
      | cons h2 hvs => cases hvs with
        | nil => exact ⟨_, _, rfl, h1, h2⟩
  have hta : ∀ w, (Instr.typeAssert .nilIface 20 62 true).run Try.prog w = .ok (.tuple #[.int .i64 0, .bool false]) w := fun w => run_assert_nil (P := Try.prog) (t := 62) Try.underlying62 (by kernel_rfl)
  obtain ⟨c1, c2, hc, h1, h2⟩ := trCode_seq tr_term_Parse_1
  have hb : Try.f26.body = some (.seq c1 c2) := congrArg some hc
  injection hc with e1 e2
  subst e1
  clear e2 h1
  refine callsD_of_wpS Try.func26 hb fun c₀ cs hu => ?_
  apply wpS_seq
  apply wpS_region
  simp [wpOpsS, go_sem, recoverD, hu, hta, Try.ntmps26, Exit.thenS]
  have hH := holdsR (b := b) (c := c) (n := 0) (ok := false) (a := { tmps := #[v1, v2] ++ (((((((Array.replicate 10 undef).setIfInBounds 3 Value.nilIface).setIfInBounds 4 (Value.tuple #[Value.int IntKind.i64 0, Value.bool false])).setIfInBounds 2 (Value.tuple #[Value.int IntKind.i64 0, Value.bool false])).setIfInBounds 5 (Value.int IntKind.i64 0)).setIfInBounds 6 (Value.bool false)).setIfInBounds 0 (Value.int IntKind.i64 0)).setIfInBounds 1 (Value.bool false), defers := [] }) hclean hglob hfit hown r1 r2 (by rw [inR_i64]; omega) (by simp) (by simp) (by simp) (by simp) (by simp) rfl
  refine wpS_of_wp (wp_mono ((?hw : IWP Try.prog _ [] _ (fun e s => e = .normal ∧ s.S = S) ⟨envR b c 0 false, S⟩) c2 h2 _ w hH) fun e a' w' he => ?_)
  case' hw => skip
  rotate_left
  · skip
    cases e with
    | normal =>
      obtain ⟨s, ⟨_, hS⟩, hH'⟩ := he
      have hbe := behind_of ⟨rfl, rfl, rfl, rfl, rfl, rfl⟩ (by rw [hS]; exact hclean) hH'
      rw [hS] at hbe
      obtain ⟨σ', ι', R'⟩ := hH'
      refine ⟨R'.nod, .returning, by rw [← hu], .tuple #[], by simp [results, Try.results26], ⟨_, rfl⟩, rfl, hbe⟩
    | ret => obtain ⟨s, h, _⟩ := he; cases h.1
    | exit id => obtain ⟨s, h, _⟩ := he; cases h.1
    | panic ch => obtain ⟨s, v, h, _⟩ := he; cases h.1.1
    | goto l => exact he.elim
    | outgrown => exact he.elim
  · repeat' (first | (with_reducible first | refine Wa ?_ | refine Wb ?_ | refine Wc ?_ | refine Wd ?_ | refine We ?_ | refine Wf ?_ | refine Wg ?_ | refine Wh ?_ | refine Wi ?_ | refine Wj ?_ | refine Wk (by decide) ?_ | refine Wl ?_ | refine Wm ?_ | refine Wn ?_) | ((with_reducible first | refine Wo (fun K hK => ?_) | refine Wp ?_ | refine Wq ?_ | refine Wr ?_); (try simp only [go_sem, List.forall_mem_nil, ↓guard_ite, ↓pick_ite, seval, encT_eq, inR_i64, envR, decide_eq_true_eq, decide_eq_false_iff_not, Int.ofNat_lt]); (repeat with_reducible refine And.intro (by first | omega | (with_reducible first | exact lens_encT | exact lens_encL | exact lens_encB | exact lens_encP) | (simp; done) | (simp only [List.length_take, List.length_map, List.length_append, maxLen_eq]; omega)) ?_); (try (with_reducible refine hK _ ?_; clear hK K)); (try with_reducible refine ite_conj ?_)))
    exact ⟨rfl, rfl⟩
def gone (S : AStore) (b c : Nat) (n : Int) : AStore := updE (updE S b (some (.box 24 [.st (.str ⟨#[]⟩), .full []]))) c (some (.box 25 [.st (.int .i64 n)]))
set_option maxRecDepth 100000 in
theorem parse1_pan (n : Int) (hn : inR .i64 n) (b c : Nat) (S : AStore) (hb1 : 1000 ≤ b) (hc1 : 1000 ≤ c) (hbc : b ≠ c) {cs1 : List AC} {x1 : AC} (sb : S b = some (.box 24 cs1)) (hl : cs1.length = 2) (sc : S c = some (.box 25 [x1])) :
    ADef Try.prog 26 [.one (.ptr b 1 0 0), .one (.ptr c 1 0 0)] S (.panicking [{ v := fault n, recovered := false }]) (.panicking [{ v := fault n, recovered := true }]) (gone S b c n) := by
  intro hclean σ w vs ι hglob hfit hown hvs
  obtain ⟨v1, v2, rfl, r1, r2⟩ : ∃ v1 v2, vs = [v1, v2] ∧ VRep σ S ι v1 (.one (.ptr b 1 0 0)) ∧ VRep σ S ι v2 (.one (.ptr c 1 0 0)) := by
    cases hvs with
    | cons h1 hvs => cases hvs with
      | cons h2 hvs => cases hvs with
        | nil => exact ⟨_, _, rfl, h1, h2⟩
  have hta : ∀ w, (Instr.typeAssert (.iface 62 (.int .i64 n)) 20 62 true).run Try.prog w = .ok (.tuple #[.int .i64 n, .bool true]) w := fun w => run_assert_hit (P := Try.prog) (t := 62) Try.underlying62
  obtain ⟨c1, c2, hc, h1, h2⟩ := trCode_seq tr_term_Parse_1
  have hb : Try.f26.body = some (.seq c1 c2) := congrArg some hc
  injection hc with e1 e2
  subst e1
  clear e2 h1
  refine callsD_of_wpS Try.func26 hb fun c₀ cs hu => ?_
  apply wpS_seq
  apply wpS_region
  simp [wpOpsS, go_sem, recoverD, hu, hta, Try.ntmps26, Exit.thenS]
  have hH := holdsR (b := b) (c := c) (n := n) (ok := true) (a := { tmps := #[v1, v2] ++ (((((((Array.replicate 10 undef).setIfInBounds 3 (fault n)).setIfInBounds 4 (Value.tuple #[Value.int IntKind.i64 n, Value.bool true])).setIfInBounds 2 (Value.tuple #[Value.int IntKind.i64 n, Value.bool true])).setIfInBounds 5 (Value.int IntKind.i64 n)).setIfInBounds 6 (Value.bool true)).setIfInBounds 0 (Value.int IntKind.i64 n)).setIfInBounds 1 (Value.bool true), defers := [] }) hclean hglob hfit hown r1 r2 hn (by simp) (by simp) (by simp) (by simp) (by simp) rfl
  refine wpS_of_wp (wp_mono ((?hw : IWP Try.prog _ [] _ (fun e s => e = .normal ∧ s.S = gone S b c n) ⟨envR b c n true, S⟩) c2 h2 _ w hH) fun e a' w' he => ?_)
  case' hw => skip
  rotate_left
  · cases e with
    | normal =>
      obtain ⟨s, ⟨_, hS⟩, hH'⟩ := he
      have hbe := behind_of ⟨rfl, rfl, rfl, rfl, rfl, rfl⟩ (by rw [hS]; exact clean_upd (clean_upd hclean hb1 (by simp [ABlk.high, AC.highs, AC.high])) hc1 (by simp [ABlk.high, AC.highs, AC.high])) hH'
      rw [hS] at hbe
      obtain ⟨σ', ι', R'⟩ := hH'
      refine ⟨R'.nod, _, rfl, .tuple #[], by simp [results, Try.results26], ⟨_, rfl⟩, rfl, hbe⟩
    | ret => obtain ⟨s, h, _⟩ := he; cases h.1
    | exit id => obtain ⟨s, h, _⟩ := he; cases h.1
    | panic ch => obtain ⟨s, v, h, _⟩ := he; cases h.1.1
    | goto l => exact he.elim
    | outgrown => exact he.elim
  · have hcb : ¬ c = b := fun h => hbc h.symm
    repeat' (first | (with_reducible first | refine Wa ?_ | refine Wb ?_ | refine Wc ?_ | refine Wd ?_ | refine We ?_ | refine Wf ?_ | refine Wg ?_ | refine Wh ?_ | refine Wi ?_ | refine Wj ?_ | refine Wk (by decide) ?_ | refine Wl ?_ | refine Wm ?_ | refine Wn ?_) | ((with_reducible first | refine Wo (fun K hK => ?_) | refine Wp ?_ | refine Wq ?_ | refine Wr ?_); (try simp only [go_sem, List.forall_mem_nil, ↓guard_ite, ↓pick_ite, seval, encT_eq, inR_i64, envR, sb, sc, hl, hcb, decide_eq_true_eq, decide_eq_false_iff_not, Int.ofNat_lt]); (repeat with_reducible refine And.intro (by first | omega | (with_reducible first | exact lens_encT | exact lens_encL | exact lens_encB | exact lens_encP) | (simp; done) | (simp only [List.length_take, List.length_map, List.length_append, maxLen_eq]; omega)) ?_); (try (with_reducible refine hK _ ?_; clear hK K)); (try with_reducible refine ite_conj ?_)))
    refine ⟨rfl, ?_⟩
    have hdl : List.drop 2 cs1 = [] := List.drop_eq_nil_of_le (by omega)
    rw [hdl]
    rfl
theorem settled (n : Int) : settle (.panicking [{ v := fault n, recovered := true }]) = .returning := by
  rfl
theorem endD_pan {n : Int} (hn : inR .i64 n) {x : AS} {c1 c2 : AC} {x1 : AC} (e2 : x.env 2 = .one (.ptr 1002 1 0 0)) (e3 : x.env 3 = .one (.ptr 1003 1 0 0)) (t2 : x.S 1002 = some (.box 24 [c1, c2])) (t3 : x.S 1003 = some (.box 25 [x1])) :
    EndD Try.prog 26 [.one (.ptr 1002 1 0 0), .one (.ptr 1003 1 0 0)] [RV.cell 2 true 2, RV.cell 3 false 1] (readV (.mk ⟨#[]⟩ [], n)) (.pan (fault n)) x := by
  refine ⟨_, _, parse1_pan n hn 2002 2003 (upS x.S) (cs1 := [c1.ren up1, c2.ren up1]) (x1 := x1.ren up1) (by decide) (by decide) (by decide) ?_ rfl ?_, settled n, ?_⟩
  · rw [show (2002 : Nat) = up1 1002 from rfl, upS_up, t2]
    rfl
  · rw [show (2003 : Nat) = up1 1003 from rfl, upS_up, t3]
    rfl
  · unfold gone
    rw [show (2002 : Nat) = up1 1002 from rfl, show (2003 : Nat) = up1 1003 from rfl, dnS_upd, dnS_upd, dn_upS]
    unfold AS.result
    simp only [go_sem, List.forall_mem_nil, ↓guard_ite, ↓pick_ite, seval, encT_eq, inR_i64, resAll, resOne, tupV, e2, e3]
    rfl
set_option maxRecDepth 100000 in
theorem parse_a (s : ByteArray) : ACalls Try.prog 7 [aStr s] (readV (readOf s)) := by
  have hro : readOf s = if 4000 < s.size then (.mk ⟨#[]⟩ [], 3) else if (rdS s).e = 0 then (if (rdS s).i < s.size then (.mk ⟨#[]⟩ [], 12) else ((rdS s).t, 0)) else (.mk ⟨#[]⟩ [], (rdS s).e) := rfl
  refine acalls_defer (f := 7) (g := 26) (t := 9) (rs := [.cell 2 true 2, .cell 3 false 1]) Try.func7 rfl tr_term_Parse rfl (Nat.le_of_ble_eq_true rfl) rfl rfl rfl rfl rfl rfl rfl (Nat.le_of_ble_eq_true rfl) rfl (by kernel_rfl) fun C hC => ?_
  have hC : C.n = 22 := hC
  by_cases h0 : (4000 : Int) < s.size
  · rw [hro, if_pos (by omega)]
    unfold readV
    repeat' (first | (with_reducible first | refine Wa ?_ | refine Wb ?_ | refine Wc ?_ | refine Wd ?_ | refine We ?_ | refine Wf ?_ | refine Wg ?_ | refine Wh ?_ | refine Wi ?_ | refine Wj ?_ | refine Wk (by decide) ?_ | refine Wl ?_ | refine Wm ?_ | refine Wn ?_) | ((with_reducible first | refine Wx rfl (fun K hK => ?_) | refine Wp ?_ | refine Wq ?_ | refine Wr ?_); (try simp only [go_sem, List.forall_mem_nil, ↓guard_ite, ↓pick_ite, seval, encT_eq, inR_i64, h0, decide_eq_true_eq, decide_eq_false_iff_not, Int.ofNat_lt]); (repeat with_reducible refine And.intro (by first | omega | (with_reducible first | exact lens_encT | exact lens_encL | exact lens_encB | exact lens_encP) | (simp; done) | (simp only [List.length_take, List.length_map, List.length_append, maxLen_eq]; omega)) ?_); (try (with_reducible refine hK _ ?_; clear hK K)); (try with_reducible refine ite_conj ?_)))
    refine then_normal ?_
    repeat' (first | (with_reducible first | refine Wa ?_ | refine Wb ?_ | refine Wc ?_ | refine Wd ?_ | refine We ?_ | refine Wf ?_ | refine Wg ?_ | refine Wh ?_ | refine Wi ?_ | refine Wj ?_ | refine Wk (by decide) ?_ | refine Wl ?_ | refine Wm ?_ | refine Wn ?_) | ((with_reducible first | refine Wx rfl (fun K hK => ?_) | refine Wp ?_ | refine Wq ?_ | refine Wr ?_); (try simp only [go_sem, List.forall_mem_nil, ↓guard_ite, ↓pick_ite, seval, encT_eq, inR_i64, h0, decide_eq_true_eq, decide_eq_false_iff_not, Int.ofNat_lt]); (repeat with_reducible refine And.intro (by first | omega | (with_reducible first | exact lens_encT | exact lens_encL | exact lens_encB | exact lens_encP) | (simp; done) | (simp only [List.length_take, List.length_map, List.length_append, maxLen_eq]; omega)) ?_); (try (with_reducible refine hK _ ?_; clear hK K)); (try with_reducible refine ite_conj ?_)))
    simp only [go_sem, List.forall_mem_nil, ↓guard_ite, ↓pick_ite, seval, FinQ, AS.result, resAll, resOne, tupV]
    rfl
  have hs : s.size ≤ 100000 := by omega
  rw [hro, if_neg (by omega)]
  repeat' (first | (with_reducible first | refine Wa ?_ | refine Wb ?_ | refine Wc ?_ | refine Wd ?_ | refine We ?_ | refine Wf ?_ | refine Wg ?_ | refine Wh ?_ | refine Wi ?_ | refine Wj ?_ | refine Wk (by decide) ?_ | refine Wl ?_ | refine Wm ?_ | refine Wn ?_) | ((with_reducible first | refine Wx rfl (fun K hK => ?_) | refine Wp ?_ | refine Wq ?_ | refine Wr ?_); (try simp only [go_sem, List.forall_mem_nil, ↓guard_ite, ↓pick_ite, seval, encT_eq, inR_i64, h0, decide_eq_true_eq, decide_eq_false_iff_not, Int.ofNat_lt]); (repeat with_reducible refine And.intro (by first | omega | (with_reducible first | exact lens_encT | exact lens_encL | exact lens_encB | exact lens_encP) | (simp; done) | (simp only [List.length_take, List.length_map, List.length_append, maxLen_eq]; omega)) ?_); (try (with_reducible refine hK _ ?_; clear hK K)); (try with_reducible refine ite_conj ?_)))
  refine then_normal ?_
  repeat' (first | (with_reducible first | refine Wa ?_ | refine Wb ?_ | refine Wc ?_ | refine Wd ?_ | refine We ?_ | refine Wf ?_ | refine Wg ?_ | refine Wh ?_ | refine Wi ?_ | refine Wj ?_ | refine Wk (by decide) ?_ | refine Wl ?_ | refine Wm ?_ | refine Wn ?_) | ((with_reducible first | refine Wx rfl (fun K hK => ?_) | refine Wp ?_ | refine Wq ?_ | refine Wr ?_); (try simp only [go_sem, List.forall_mem_nil, ↓guard_ite, ↓pick_ite, seval, encT_eq, inR_i64, h0, decide_eq_true_eq, decide_eq_false_iff_not, Int.ofNat_lt]); (repeat with_reducible refine And.intro (by first | omega | (with_reducible first | exact lens_encT | exact lens_encL | exact lens_encB | exact lens_encP) | (simp; done) | (simp only [List.length_take, List.length_map, List.length_append, maxLen_eq]; omega)) ?_); (try (with_reducible refine hK _ ?_; clear hK K)); (try with_reducible refine ite_conj ?_)))
  refine then_normal ⟨_, by simp [AS.caps]; rfl, fun C' hC' => ?_⟩
  have hC' : C'.n = 22 := hC'
  generalize hT : AS.up _ = T
  have e0 : T.env 0 = aStr s := by subst hT; rfl
  have e2 : T.env 2 = .one (.ptr 1002 1 0 0) := by subst hT; rfl
  have e3 : T.env 3 = .one (.ptr 1003 1 0 0) := by subst hT; rfl
  have t2 : T.S 1002 = some boxT0r := by subst hT; rfl
  have t3 : T.S 1003 = some (.box 25 [.st (.int .i64 0)]) := by subst hT; rfl
  have t12 : T.S 12 = none := by subst hT; rfl
  obtain ⟨env, S⟩ := T
  simp only at e0 e2 e3 t2 t3 t12
  clear hT
  have hcall := fun S' (h : S' (up1 12) = some (boxR s 200)) => rterm_S s hs (2 * s.size + 1) 0 0 (by omega) (by omega) (by omega) (up1 12) S' (up1_le 12) (by rw [h, tail_zero]; rfl)
  have hr : rd s (2 * s.size + 1) 0 0 = rdS s := rfl
  rw [hr] at hcall
  have hok := rd_ok s (2 * s.size + 1) 0 0 (by omega) (by omega) (by omega)
  rw [hr] at hok
  have hrange : inR .i64 (rdS s).e := by
    rw [inR_i64]
    have := hok.err
    omega
  by_cases h1 : (rdS s).e = 0
  case neg =>
    rw [if_neg h1]
    repeat' (first | (with_reducible first | refine Wa ?_ | refine Wb ?_ | refine Wc ?_ | refine Wd ?_ | refine We ?_ | refine Wf ?_ | refine Wg ?_ | refine Wh ?_ | refine Wi ?_ | refine Wj ?_ | refine Wk (by decide) ?_ | refine Wl ?_ | refine Wm ?_ | refine Wn ?_) | (first | refine IWP.opsPanE 1 ⟨some 14, none, .callS 27 [.t 13], .no⟩ rfl (by kernel_rfl) ?_) | ((with_reducible first | refine Wx rfl (fun K hK => ?_) | refine Wp ?_ | refine Wq ?_ | refine Wr ?_); (try simp only [go_sem, List.forall_mem_nil, ↓guard_ite, ↓pick_ite, seval, encT_eq, inR_i64, e0, e2, e3, t2, t3, t12, decide_eq_true_eq, decide_eq_false_iff_not, Int.ofNat_lt]); (repeat with_reducible refine And.intro (by first | omega | (with_reducible first | exact lens_encT | exact lens_encL | exact lens_encB | exact lens_encP) | (simp; done) | (simp only [List.length_take, List.length_map, List.length_append, maxLen_eq]; omega)) ?_); (try (with_reducible refine hK _ ?_; clear hK K)); (try with_reducible refine ite_conj ?_)))
    simp only [go_sem, List.forall_mem_nil, ↓guard_ite, ↓pick_ite, seval, encT_eq, inR_i64, PanAt, List.take_succ_cons, List.take_zero, e0, e2, e3, t2, t3, t12]
    refine ⟨_, _, (hcall _ (by rw [upS_up, updE_same]; rfl)).2 h1, fun envP hE => ?_⟩
    refine Wy (endD_pan (c1 := .st (.str ⟨#[]⟩)) (c2 := .full []) (x1 := .st (.int .i64 0)) hrange ((hE 2 rfl).trans (by simp only [go_sem, List.forall_mem_nil, ↓guard_ite, ↓pick_ite, seval, encT_eq, inR_i64, e2])) ((hE 3 rfl).trans (by simp only [go_sem, List.forall_mem_nil, ↓guard_ite, ↓pick_ite, seval, encT_eq, inR_i64, e3])) ?_ ?_)
    · simp only [go_sem, List.forall_mem_nil, ↓guard_ite, ↓pick_ite, seval, encT_eq, inR_i64, t2]
    · simp only [go_sem, List.forall_mem_nil, ↓guard_ite, ↓pick_ite, seval, encT_eq, inR_i64, t3]
  case pos =>
  rw [if_pos h1]
  obtain ⟨o1, o2, o3, o4⟩ := hok.ok h1
  have hiq := hok.in_
  have hnq := tail_nil hiq
  by_cases h2 : (rdS s).i < s.size
  · have h2n : ¬ tailS s (rdS s).i = ⟨#[]⟩ := fun h => by have := hnq.1 h; omega
    rw [if_pos h2]
    repeat' (first | (with_reducible first | refine Wa ?_ | refine Wb ?_ | refine Wc ?_ | refine Wd ?_ | refine We ?_ | refine Wf ?_ | refine Wg ?_ | refine Wh ?_ | refine Wi ?_ | refine Wj ?_ | refine Wk (by decide) ?_ | refine Wl ?_ | refine Wm ?_ | refine Wn ?_) | ((with_reducible first | refine Wx rfl (fun K hK => ?_) | refine Wp ?_ | refine Wq ?_ | refine Wr ?_); (try simp only [go_sem, List.forall_mem_nil, ↓guard_ite, ↓pick_ite, seval, encT_eq, inR_i64, e0, e2, e3, t2, t3, t12, decide_eq_true_eq, decide_eq_false_iff_not, Int.ofNat_lt]); (repeat with_reducible refine And.intro (by first | omega | (with_reducible first | exact lens_encT | exact lens_encL | exact lens_encB | exact lens_encP) | (simp; done) | (simp only [List.length_take, List.length_map, List.length_append, maxLen_eq]; omega)) ?_); (try (with_reducible refine hK _ ?_; clear hK K)); (try with_reducible refine ite_conj ?_)))
    refine ⟨_, _, (hcall _ (by rw [upS_up, updE_same]; rfl)).1 h1, ?_⟩
    repeat' (first | (with_reducible first | refine Wa ?_ | refine Wb ?_ | refine Wc ?_ | refine Wd ?_ | refine We ?_ | refine Wf ?_ | refine Wg ?_ | refine Wh ?_ | refine Wi ?_ | refine Wj ?_ | refine Wk (by decide) ?_ | refine Wl ?_ | refine Wm ?_ | refine Wn ?_) | ((with_reducible first | refine Wx rfl (fun K hK => ?_) | refine Wp ?_ | refine Wq ?_ | refine Wr ?_); (try simp only [go_sem, List.forall_mem_nil, ↓guard_ite, ↓pick_ite, seval, encT_eq, inR_i64, e0, e2, e3, t2, t3, t12, h2n, decide_eq_true_eq, decide_eq_false_iff_not, Int.ofNat_lt]); (repeat with_reducible refine And.intro (by first | omega | (with_reducible first | exact lens_encT | exact lens_encL | exact lens_encB | exact lens_encP) | (simp; done) | (simp only [List.length_take, List.length_map, List.length_append, maxLen_eq]; omega)) ?_); (try (with_reducible refine hK _ ?_; clear hK K)); (try with_reducible refine ite_conj ?_)))
    refine IWP.opsPanE 1 _ rfl (by kernel_rfl) ?_
    simp only [go_sem, List.forall_mem_nil, ↓guard_ite, ↓pick_ite, seval, encT_eq, inR_i64, PanAt, List.take_succ_cons, List.take_zero, e0, e2, e3, t2, t3, t12]
    intro envP hE
    refine Wy (endD_pan (n := 12) (c1 := .st (.str (rdS s).t.name)) (c2 := .st (.list (List.map encT (rdS s).t.args))) (x1 := .st (.int .i64 0)) (by decide) ((hE 2 rfl).trans (by simp only [go_sem, List.forall_mem_nil, ↓guard_ite, ↓pick_ite, seval, encT_eq, inR_i64, e2])) ((hE 3 rfl).trans (by simp only [go_sem, List.forall_mem_nil, ↓guard_ite, ↓pick_ite, seval, encT_eq, inR_i64, e3])) ?_ ?_)
    · simp only [go_sem, List.forall_mem_nil, ↓guard_ite, ↓pick_ite, seval, encT_eq, inR_i64, t2]
    · simp only [go_sem, List.forall_mem_nil, ↓guard_ite, ↓pick_ite, seval, encT_eq, inR_i64, t3]
  · have h2n : tailS s (rdS s).i = ⟨#[]⟩ := hnq.2 (by omega)
    rw [if_neg h2]
    repeat' (first | (with_reducible first | refine Wa ?_ | refine Wb ?_ | refine Wc ?_ | refine Wd ?_ | refine We ?_ | refine Wf ?_ | refine Wg ?_ | refine Wh ?_ | refine Wi ?_ | refine Wj ?_ | refine Wk (by decide) ?_ | refine Wl ?_ | refine Wm ?_ | refine Wn ?_) | ((with_reducible first | refine Wx rfl (fun K hK => ?_) | refine Wp ?_ | refine Wq ?_ | refine Wr ?_); (try simp only [go_sem, List.forall_mem_nil, ↓guard_ite, ↓pick_ite, seval, encT_eq, inR_i64, e0, e2, e3, t2, t3, t12, decide_eq_true_eq, decide_eq_false_iff_not, Int.ofNat_lt]); (repeat with_reducible refine And.intro (by first | omega | (with_reducible first | exact lens_encT | exact lens_encL | exact lens_encB | exact lens_encP) | (simp; done) | (simp only [List.length_take, List.length_map, List.length_append, maxLen_eq]; omega)) ?_); (try (with_reducible refine hK _ ?_; clear hK K)); (try with_reducible refine ite_conj ?_)))
    refine ⟨_, _, (hcall _ (by rw [upS_up, updE_same]; rfl)).1 h1, ?_⟩
    repeat' (first | (with_reducible first | refine Wa ?_ | refine Wb ?_ | refine Wc ?_ | refine Wd ?_ | refine We ?_ | refine Wf ?_ | refine Wg ?_ | refine Wh ?_ | refine Wi ?_ | refine Wj ?_ | refine Wk (by decide) ?_ | refine Wl ?_ | refine Wm ?_ | refine Wn ?_) | ((with_reducible first | refine Wx rfl (fun K hK => ?_) | refine Wp ?_ | refine Wq ?_ | refine Wr ?_); (try simp only [go_sem, List.forall_mem_nil, ↓guard_ite, ↓pick_ite, seval, encT_eq, inR_i64, e0, e2, e3, t2, t3, t12, h2n, decide_eq_true_eq, decide_eq_false_iff_not, Int.ofNat_lt]); (repeat with_reducible refine And.intro (by first | omega | (with_reducible first | exact lens_encT | exact lens_encL | exact lens_encB | exact lens_encP) | (simp; done) | (simp only [List.length_take, List.length_map, List.length_append, maxLen_eq]; omega)) ?_); (try (with_reducible refine hK _ ?_; clear hK K)); (try with_reducible refine ite_conj ?_)))
    refine ⟨_, parse1_idle _ _ _, ?_⟩
    rw [dn_upS]
    unfold AS.result
    simp only [go_sem, List.forall_mem_nil, ↓guard_ite, ↓pick_ite, seval, encT_eq, inR_i64, resAll, resOne, tupV, e2, e3]
    rfl
end Go.Proofs.Ytohgkbgpcnmdpaa

namespace Go.Proofs.Ytohgkbgpcnmdpaa
open Go Go.RowKit
set_option maxRecDepth 100000
def ir_metaprunetop_fact : IR :=
  (.seq
  (.ops
  [.mk (some 0) none (.mov (.c (.one (.st (.bool false)))))
  .no])
  (.seq
  (.ops
  [.mk (some 8) none (.call 7
  [.c (.one (.st (.str (ByteArray.mk (#[102, 40, 97, 44, 88, 41])))))])
  .no, .mk (some 7) none (.mov (.t 8)) .no, .mk (some 9) none (.extract 0 (.t 7)) .no, .mk (some 10) none (.extract 1 (.t 7)) .no, .mk (some 1) none
  (.alloc 24 [.st (.str (ByteArray.mk (#[]))), .full []]) .no, .mk none none (.store 2 (.t 1) (.t 9)) .no, .mk (some 2) none (.mov (.t 10)) .no])
  (.seq
  (.ops
  [.mk (some 12) none (.call 7
  [.c (.one (.st (.str (ByteArray.mk (#[102, 40, 89, 44, 98, 41])))))])
  .no, .mk (some 11) none (.mov (.t 12)) .no, .mk (some 13) none (.extract 0 (.t 11)) .no, .mk (some 14) none (.extract 1 (.t 11)) .no, .mk (some 3) none
  (.alloc 24 [.st (.str (ByteArray.mk (#[]))), .full []]) .no, .mk none none (.store 2 (.t 3) (.t 13)) .no, .mk (some 4) none (.mov (.t 14)) .no])
  (.seq
  (.ops
  [.mk (some 16) none (.load true 2 (.t 1)) .no, .mk (some 17) none (.load true 2 (.t 3)) .no, .mk (some 18) none
  (.build
  [.st (.str (ByteArray.mk (#[]))), .full [], .st (.str (ByteArray.mk (#[]))), .full []]
  [(0, 2, .t 16), (2, 2, .t 17)])
  .no, .mk (some 19) none (.buildSlice false 51 4 [.t 18]) .no, .mk (some 20) none (.call 18 [.t 19]) .no, .mk (some 15) none (.mov (.t 20)) .no, .mk (some 21) none (.extract 0 (.t 15)) .no, .mk (some 22) none (.extract 1 (.t 15)) .no, .mk (some 5) none (.mov (.t 21)) .no, .mk (some 6) none (.mov (.t 22)) .no])
  (.seq
  (.ops
  [.mk (some 23) none (.mov (.t 2)) .no, .mk (some 24) none (.bin .eql (.t 23) (.c (.one (.st (.int .i64 0)))))
  .no, .mk (some 25) none (.mov (.t 24)) .no, .mk (some 26) (some (25, true)) (.mov (.t 4)) .no, .mk (some 27) (some (25, true)) (.bin .eql (.t 26) (.c (.one (.st (.int .i64 0)))))
  .no, .mk (some 28) none
  (.pick (.t 25) (.t 27) (.c (.one (.st (.bool false)))))
  .no, .mk (some 29) none (.mov (.t 28)) .no, .mk (some 30) (some (29, true)) (.mov (.t 6)) .no, .mk (some 31) (some (29, true)) (.bin .eql (.t 30) (.c (.one (.st (.int .i64 0)))))
  .no, .mk (some 32) none
  (.pick (.t 29) (.t 31) (.c (.one (.st (.bool false)))))
  .no, .mk (some 33) none (.mov (.t 32)) .no, .mk (some 34) (some (33, true)) (.mov (.t 5)) .no, .mk (some 35) (some (33, true)) (.len false (.t 34)) .no, .mk (some 36) (some (33, true)) (.bin .eql (.t 35) (.c (.one (.st (.int .i64 2)))))
  .no, .mk (some 37) none
  (.pick (.t 33) (.t 36) (.c (.one (.st (.bool false)))))
  .no, .mk (some 38) none (.mov (.t 37)) .no, .mk (some 39) (some (38, true)) (.mov (.t 5)) .no, .mk (some 40) (some (38, true))
  (.indexAddr 3 (.t 39) (.c (.one (.st (.int .i64 0)))))
  .no, .mk (some 41) (some (38, true)) (.fieldAddr 0 (.t 40)) .no, .mk (some 42) (some (38, true)) (.load false 1 (.t 41)) .no, .mk (some 43) (some (38, true)) (.bin .eql (.t 42) (.c (.one (.st (.str (ByteArray.mk (#[88])))))))
  .no, .mk (some 44) none
  (.pick (.t 38) (.t 43) (.c (.one (.st (.bool false)))))
  .no, .mk (some 45) none (.mov (.t 44)) .no, .mk (some 46) (some (45, true)) (.mov (.t 5)) .no, .mk (some 47) (some (45, true))
  (.indexAddr 3 (.t 46) (.c (.one (.st (.int .i64 0)))))
  .no, .mk (some 48) (some (45, true)) (.fieldAddr 1 (.t 47)) .no, .mk (some 49) (some (45, true)) (.fieldAddr 0 (.t 48)) .no, .mk (some 50) (some (45, true)) (.load false 1 (.t 49)) .no, .mk (some 51) (some (45, true)) (.bin .eql (.t 50) (.c (.one (.st (.str (ByteArray.mk (#[98])))))))
  .no, .mk (some 52) none
  (.pick (.t 45) (.t 51) (.c (.one (.st (.bool false)))))
  .no, .mk (some 53) none (.mov (.t 52)) .no, .mk (some 54) (some (53, true)) (.mov (.t 5)) .no, .mk (some 55) (some (53, true))
  (.indexAddr 3 (.t 54) (.c (.one (.st (.int .i64 1)))))
  .no, .mk (some 56) (some (53, true)) (.fieldAddr 1 (.t 55)) .no, .mk (some 57) (some (53, true)) (.fieldAddr 0 (.t 56)) .no, .mk (some 58) (some (53, true)) (.load false 1 (.t 57)) .no, .mk (some 59) (some (53, true)) (.bin .eql (.t 58) (.c (.one (.st (.str (ByteArray.mk (#[97])))))))
  .no, .mk (some 60) none
  (.pick (.t 53) (.t 59) (.c (.one (.st (.bool false)))))
  .no, .mk (some 0) none (.mov (.t 60)) .no])
  .ret)))))
theorem tr_metaprunetop_fact : trCode Try.prog 61 [] (Try.f21.body.getD .skip) = some ir_metaprunetop_fact := by kernel_rfl
theorem ac_metaprunetop_fact {xs : List AV} {r : AV} (hn : xs.length ≤ 61) (h : ∀ C : Ctx, C.n = 61 → IWP Try.prog C [] ir_metaprunetop_fact (FinQ [.t 0] r) (AS.start xs)) : ACalls Try.prog 21 xs r :=
  acalls_of Try.func21 rfl tr_metaprunetop_fact rfl hn h
end Go.Proofs.Ytohgkbgpcnmdpaa
