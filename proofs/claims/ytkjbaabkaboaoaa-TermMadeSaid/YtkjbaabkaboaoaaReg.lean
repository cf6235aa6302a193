/-
  A region that draws its order, where the last store writes what the region reads: a condition on the world that is asked till operation m has come up.
  Conditions: none.
-/
import Derived.Test.YtkjbaabkaboaoaaOwnSet
namespace Go.Proofs.Ytkjbaabkaboaoaa
open Go Go.RowKit
set_option maxHeartbeats 400000
set_option linter.unusedVariables false

section
variable {P : Program} {l : List Oper} {Q : Exit → Act → World → Prop} {md : Region.Mode} {S : World → Prop} {m : Nat}

/-- Whatever order is picked from here on; S holds behind each operation, till m has come up. -/
def wpAnyM (P : Program) (md : Region.Mode) (l : List Oper) (Q : Exit → Act → World → Prop) (S : World → Prop) (m : Nat) : Nat → Array Bool → Act → World → Prop
  | 0, listed, a, w => Region.ready md l.toArray listed = [] ∧ Q .normal a w
  | fuel + 1, listed, a, w =>
    (Region.ready md l.toArray listed = [] → Q .normal a w) ∧
    ∀ i ∈ Region.ready md l.toArray listed, wpOp P l.toArray Q i (fun a' w' => ((listed.setIfInBounds i true).getD m true = false → S w') ∧ wpAnyM P md l Q S m fuel (listed.setIfInBounds i true) a' w') a w

theorem wpAny_of_M : ∀ (fuel : Nat) (listed : Array Bool) (a : Act) (w : World), wpAnyM P md l Q S m fuel listed a w → wpAny P md l.toArray Q fuel listed a w
  | 0, _, _, _, h => h
  | fuel + 1, _, _, _, h => ⟨h.1, fun i hi => wpOp_mono (fun a' w' h' => wpAny_of_M fuel _ a' w' h'.2) (h.2 i hi)⟩

/-- Does operation m wait for operation i by an edge of its own? -/
def waitsFor (md : Region.Mode) (l : List Oper) (m i : Nat) : Bool := match l[m]? with
  | some o => o.after.any fun e => Region.binds md e && e.on == i
  | none => false
theorem waits_spec {i : Nat} (h : waitsFor md l m i = true) {listed : Array Bool} (hm : m ∈ Region.ready md l.toArray listed) : listed.getD i false = true := by
  obtain ⟨_, o, ho, hall⟩ := mem_ready.1 hm
  have ho' : l[m]? = some o := by simpa using ho
  simp only [waitsFor, ho'] at h
  obtain ⟨k, hk, h2⟩ := Array.any_eq_true.1 h
  simp only [Bool.and_eq_true, beq_iff_eq] at h2
  have := hall _ (Array.getElem_mem hk) h2.1
  rw [h2.2] at this
  exact this

theorem wpAnyM_first {i : Nat} {oi : Oper} {v : Value} (hi : l.toArray[i]? = some oi) (hsel : ∀ (j : Nat) (o : Oper) cs b, l.toArray[j]? = some o → o.op ≠ .select cs b)
    (hQ : ∀ c a w, Q (.panic c) (a.put oi.dst v) w → Q (.panic c) a w) (hm : waitsFor md l m i = true) (hne : m ≠ i) :
    ∀ (fuel : Nat) (listed : Array Bool) (a : Act) (w : World),
      (∀ j oj, l.toArray[j]? = some oj → j ≠ i → listed.getD j true = false → (∀ e ∈ oj.after, Region.binds md e = true → e.on ≠ i) → oi.apart l.toArray oj = true) →
      i ∈ Region.ready md l.toArray listed → listed.getD m true = false → YieldsIf P l.toArray S oi v a → S w →
      wpAnyM P md l Q S m fuel (listed.setIfInBounds i true) (a.put oi.dst v) w → wpAnyM P md l Q S m (fuel + 1) listed a w := by
  intro fuel
  induction fuel with
  | zero =>
    intro listed a w _ hr hml hy hS H
    refine ⟨fun h => (by rw [h] at hr; cases hr), fun j hj => ?_⟩
    by_cases hji : j = i
    · subst hji; exact hy.wpOp hi hS ⟨fun _ => hS, H⟩
    · have := ready_mono hj hji
      rw [H.1] at this
      cases this
  | succ fuel ih =>
    intro listed a w hfree hr hml hy hS H
    refine ⟨fun h => (by rw [h] at hr; cases hr), fun j hj => ?_⟩
    by_cases hji : j = i
    · subst hji; exact hy.wpOp hi hS ⟨fun _ => hS, H⟩
    · have hun := (mem_ready.1 hr).1
      have hjm : j ≠ m := by
        rintro rfl
        have h1 := waits_spec hm hj
        rcases Nat.lt_or_ge i listed.size with h' | h'
        · simp [h'] at h1 hun; rw [hun] at h1; cases h1
        · simp [Array.getElem?_eq_none h'] at h1
      have h1 := H.2 j (ready_mono hj hji)
      obtain ⟨hjun, oj, hoj, hall⟩ := mem_ready.1 hj
      have hnot : ∀ e ∈ oj.after, Region.binds md e = true → e.on ≠ i := fun e he hb heq => by
        have h1 := hall e he hb
        rw [heq] at h1
        rcases Nat.lt_or_ge i listed.size with h' | h'
        · simp [h'] at hun h1; rw [hun] at h1; cases h1
        · simp [Array.getElem?_eq_none h'] at h1
      have h2 := wpOp_putIf (S := S) hoj (hfree j oj hoj hji hjun hnot) (fun cs b => hsel i oi cs b hi) (fun cs b => hsel j oj cs b hoj) hQ hy h1
      have hfree' : ∀ k ok, l.toArray[k]? = some ok → k ≠ i → (listed.setIfInBounds j true).getD k true = false →
          (∀ e ∈ ok.after, Region.binds md e = true → e.on ≠ i) → oi.apart l.toArray ok = true := fun k ok hk hki hun hno => by
        refine hfree k ok hk hki ?_ hno
        by_cases hjk : j = k
        · subst hjk; exact hjun
        · rw [getD_set_ne true hjk] at hun; exact hun
      refine wpOp_mono (fun a' w' h3 => ?_) h2
      have hSw : S w' := h3.2.1 (by rw [getD_set_ne true hjm, getD_set_ne true (Ne.symm hne)]; exact hml)
      refine ⟨fun _ => hSw, ih (listed.setIfInBounds j true) a' w' hfree' (ready_mono hr (Ne.symm hji)) (by rw [getD_set_ne true hjm]; exact hml) h3.1 hSw ?_⟩
      rw [Array.setIfInBounds_comm _ _ hji]
      exact h3.2.2

/-- Take number i first: it may come up, yields v in every world that meets S, nobody who could come before it touches its temporaries, and m waits for it. -/
theorem takeM {i : Nat} {oi : Oper} {rest : List Oper} {v : Value} {fuel : Nat} {listed : Array Bool} {a : Act} {w : World} (hi : l.drop i = oi :: rest)
    (hs : Region.noSelect l.toArray = true) (hf : Region.free md l.toArray listed i = true) (hr : (Region.ready md l.toArray listed).contains i = true)
    (hm : (waitsFor md l m i && !(m == i) && !(listed.getD m true)) = true)
    (hQ : ∀ c a w, Q (.panic c) (a.put oi.dst v) w → Q (.panic c) a w) (hw : Region.wanted oi (yielded l.toArray a.tmps) = true) (hy : ∀ w, S w → (execOp a.eval oi).run P w = .ok (.value v) w) (hS : S w)
    (h : wpAnyM P md l Q S m fuel (listed.setIfInBounds i true) (a.put oi.dst v) w) : wpAnyM P md l Q S m (fuel + 1) listed a w := by
  have hi' : l.toArray[i]? = some oi := by
    have : (l.drop i)[0]? = some oi := by rw [hi]; rfl
    simpa using this
  simp only [Bool.and_eq_true, Bool.not_eq_true', beq_eq_false_iff_ne] at hm
  exact wpAnyM_first hi' (Region.noSelect_spec hs) hQ hm.1.1 hm.1.2 fuel listed a w (Region.free_spec hi' hf) (by simpa using hr) hm.2 (.inl ⟨hw, hy⟩) hS h
/-- Number i alone may come up. -/
theorem runM {i : Nat} {oi : Oper} {rest : List Oper} {fuel : Nat} {listed : Array Bool} {a : Act} {w : World} (hr : Region.ready md l.toArray listed = [i]) (hi : l.drop i = oi :: rest) (hg : oi.guard = none)
    (h : ∀ K : Act → World → Prop, Hid (∀ a' w', S w' → (S w' → wpAnyM P md l Q S m fuel (listed.setIfInBounds i true) a' w') → K a' w') → oi.wp P a w K Q) : wpAnyM P md l Q S m (fuel + 1) listed a w := by
  have hi' : l.toArray[i]? = some oi := by
    have : (l.drop i)[0]? = some oi := by rw [hi]; rfl
    simpa using this
  refine ⟨fun h0 => (by rw [hr] at h0; cases h0), fun j hj => ?_⟩
  rw [hr] at hj
  obtain rfl : j = i := by simpa using hj
  unfold wpOp
  simp only [hi']
  rw [if_pos (by simp [Region.wanted, hg])]
  exact .inl (h _ (fun a' w' hS hk => ⟨fun _ => hS, hk hS⟩))
/-- Number m is the last. -/
theorem lastM {oi : Oper} {rest : List Oper} {fuel : Nat} {listed : Array Bool} {a : Act} {w : World} (hr : Region.ready md l.toArray listed = [m]) (hd : Region.ready md l.toArray (listed.setIfInBounds m true) = []) (hml : (listed.setIfInBounds m true).getD m true = true) (hi : l.drop m = oi :: rest) (hg : oi.guard = none)
    (h : ∀ K : Act → World → Prop, Hid (∀ a' w', Q .normal a' w' → K a' w') → oi.wp P a w K Q) : wpAnyM P md l Q S m (fuel + 1) listed a w := by
  have hi' : l.toArray[m]? = some oi := by
    have : (l.drop m)[0]? = some oi := by rw [hi]; rfl
    simpa using this
  refine ⟨fun h0 => (by rw [hr] at h0; cases h0), fun j hj => ?_⟩
  rw [hr] at hj
  obtain rfl : j = m := by simpa using hj
  unfold wpOp
  simp only [hi']
  rw [if_pos (by simp [Region.wanted, hg])]
  refine .inl (h _ (fun a' w' hq => ⟨fun h0 => (by rw [hml] at h0; cases h0), ?_⟩))
  cases fuel with
  | zero => exact ⟨hd, hq⟩
  | succ n => exact ⟨fun _ => hq, by rw [hd]; simp⟩
/-- The beginning: S is shown of the world behind the draw. -/
theorem beginM {id : Nat} {a : Act} {w : World} (S : World → Prop) (m : Nat) (hm : P.follows .mixedOrders = true) (hS : S w.drew)
    (h : S w.drew → wpAnyM P .any l Q S m l.length (Array.replicate l.length false) a w.drew) : (Code.region id l.toArray true).wp P Q a w :=
  wp_region_any hm (wpAny_of_M _ _ _ _ (by simpa using h hS))
end
end Go.Proofs.Ytkjbaabkaboaoaa
