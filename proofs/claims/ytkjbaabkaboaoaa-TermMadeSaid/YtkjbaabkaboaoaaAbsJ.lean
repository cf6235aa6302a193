/-
  Regions: whatever order is drawn, operations do what their abstract words say, one behind the other.
  Conditions: none.
-/
import Derived.Test.YtkjbaabkaboaoaaAbsI
namespace Go.Proofs.Ytkjbaabkaboaoaa
open Go Go.RowKit
set_option linter.unusedVariables false
set_option maxHeartbeats 400000

def Ins.go (P : Program) (i : Ins) (s : AS) (K : AS → Prop) : Prop := match i.guard with
  | none => i.kd.go P (i.dst.getD 0) s fun v s' => K (s'.put i.dst v)
  | some (g, want) => match s.env g with
    | .one (.st (.bool b)) => (b = want → i.kd.go P (i.dst.getD 0) s fun v s' => K (s'.put i.dst v)) ∧ (¬ b = want → K (s.put i.dst (.tup [])))
    | .tup [] => K (s.put i.dst (.tup []))
    | _ => False
theorem run_cons (P : Program) (i : Ins) (l : List Ins) (s : AS) (K : AS → Prop) : Run P (i :: l) s K = i.go P s fun s' => Run P l s' K := rfl
def Ins.reads (i : Ins) : List Nat := (match i.guard with | none => [] | some (g, _) => [g]) ++ i.kd.reads
def Ins.indep (x y : Ins) : Bool :=
  (match x.dst with | none => true | some d => !y.reads.contains d && !(y.dst == some d)) && (match y.dst with | none => true | some d => !x.reads.contains d) &&
  ((x.kd.keepS && y.kd.keepS) || x.kd.pureS || y.kd.pureS)

section
variable {P : Program} {s : AS} {K : AS → Prop}
theorem ins_loc {i : Ins} (h : i.go P s K) : ∃ v S1, K ((⟨s.env, S1⟩ : AS).put i.dst v) ∧ (i.kd.keepS = true → S1 = s.S) ∧ ∀ env' : Nat → AV, (∀ t ∈ i.reads, env' t = s.env t) →
    (∀ K' : AS → Prop, K' ((⟨env', S1⟩ : AS).put i.dst v) → i.go P ⟨env', s.S⟩ K') ∧ (i.kd.pureS = true → ∀ (S' : AStore) (K' : AS → Prop), K' ((⟨env', S'⟩ : AS).put i.dst v) → i.go P ⟨env', S'⟩ K') := by
  obtain ⟨dst, guard, kd⟩ := i
  unfold Ins.go at h
  dsimp only at h
  cases guard with
  | none =>
    dsimp only at h
    obtain ⟨v, S1, h1, h2, h3⟩ := go_loc h
    refine ⟨v, S1, h1, h2, fun env' he => ?_⟩
    obtain ⟨k1, k2⟩ := h3 env' (fun t ht => he t (by simp [Ins.reads, ht]))
    exact ⟨fun K' hk => by unfold Ins.go; exact k1 _ hk, fun hp S' K' hk => by unfold Ins.go; exact k2 hp S' _ hk⟩
  | some gw =>
    obtain ⟨g, want⟩ := gw
    dsimp only at h
    have eg : ∀ env' : Nat → AV, (∀ t ∈ (Ins.mk dst (some (g, want)) kd).reads, env' t = s.env t) → env' g = s.env g := fun env' he => he g (by simp [Ins.reads])
    split at h
    · rename_i b e1
      by_cases hb : b = want
      · obtain ⟨v, S1, h1, h2, h3⟩ := go_loc (h.1 hb)
        refine ⟨v, S1, h1, h2, fun env' he => ?_⟩
        obtain ⟨k1, k2⟩ := h3 env' (fun t ht => he t (by simp [Ins.reads, ht]))
        have e2 := (eg env' he).trans e1
        exact ⟨fun K' hk => by unfold Ins.go; simp only [e2]; exact ⟨fun _ => k1 _ hk, fun hn => absurd hb hn⟩, fun hp S' K' hk => by unfold Ins.go; simp only [e2]; exact ⟨fun _ => k2 hp S' _ hk, fun hn => absurd hb hn⟩⟩
      · refine ⟨.tup [], s.S, h.2 hb, fun _ => rfl, fun env' he => ?_⟩
        have e2 := (eg env' he).trans e1
        exact ⟨fun K' hk => by unfold Ins.go; simp only [e2]; exact ⟨fun h => absurd h hb, fun _ => hk⟩, fun hp S' K' hk => by unfold Ins.go; simp only [e2]; exact ⟨fun h => absurd h hb, fun _ => hk⟩⟩
    · rename_i e1
      refine ⟨.tup [], s.S, h, fun _ => rfl, fun env' he => ?_⟩
      have e2 := (eg env' he).trans e1
      exact ⟨fun K' hk => by unfold Ins.go; simp only [e2]; exact hk, fun hp S' K' hk => by unfold Ins.go; simp only [e2]; exact hk⟩
    · exact h.elim

theorem put_env {env : Nat → AV} {S1 : AStore} {dd : Option Nat} {v : AV} {t : Nat} (h : dd ≠ some t) : ((⟨env, S1⟩ : AS).put dd v).env t = env t := by
  cases dd with
  | none => rfl
  | some d => exact updE_ne _ (fun e => h (by rw [e])) _
theorem put_comm {env : Nat → AV} {S1 : AStore} {d1 d2 : Option Nat} {v1 v2 : AV} (h : ∀ d, d1 = some d → d2 ≠ some d) : ((⟨env, S1⟩ : AS).put d1 v1).put d2 v2 = ((⟨env, S1⟩ : AS).put d2 v2).put d1 v1 := by
  cases d1 with
  | none => rfl
  | some a =>
    cases d2 with
    | none => rfl
    | some b =>
      have hne : b ≠ a := fun e => h a rfl (by rw [e])
      simp only [AS.put, AS.mk.injEq, and_true]
      funext k
      unfold updE
      by_cases h1 : k = a
      · subst h1
        rw [if_neg (fun e => hne e.symm), if_pos rfl, if_pos rfl]
      · rw [if_neg h1, if_neg h1]
theorem put_S {env : Nat → AV} {S1 : AStore} {dd : Option Nat} {v : AV} : ((⟨env, S1⟩ : AS).put dd v).S = S1 := by cases dd <;> rfl
theorem put_mk {env : Nat → AV} {S1 : AStore} {dd : Option Nat} {v : AV} : (⟨env, S1⟩ : AS).put dd v = ⟨((⟨env, S1⟩ : AS).put dd v).env, S1⟩ := by cases dd <;> rfl
theorem put_env_S {env : Nat → AV} {S1 S2 : AStore} {dd : Option Nat} {v : AV} : ((⟨env, S1⟩ : AS).put dd v).env = ((⟨env, S2⟩ : AS).put dd v).env := by cases dd <;> rfl

/-- Two operations that do not touch each other's things change places. -/
theorem swap {x y : Ins} (hi : x.indep y = true) (h : x.go P s fun s1 => y.go P s1 K) : y.go P s fun s2 => x.go P s2 K := by
  unfold Ins.indep at hi
  simp only [Bool.and_eq_true, Bool.or_eq_true] at hi
  obtain ⟨⟨i1, i2⟩, i3⟩ := hi
  have hy : ∀ t ∈ y.reads, x.dst ≠ some t := fun t ht e => by
    rw [e] at i1
    simp only [Bool.not_eq_true', Bool.and_eq_true] at i1
    exact absurd (List.contains_iff_mem.2 ht) (by rw [i1.1]; simp)
  have hx : ∀ t ∈ x.reads, y.dst ≠ some t := fun t ht e => by
    rw [e] at i2
    simp only [Bool.not_eq_true'] at i2
    exact absurd (List.contains_iff_mem.2 ht) (by rw [i2]; simp)
  have hd : ∀ d, x.dst = some d → y.dst ≠ some d := fun d e e' => by
    rw [e] at i1
    simp only [Bool.and_eq_true, Bool.not_eq_true', beq_eq_false_iff_ne] at i1
    exact i1.2 e'
  obtain ⟨v1, S1, h1, k1, m1⟩ := ins_loc h
  rw [put_mk] at h1
  obtain ⟨v2, S2, h2, k2, m2⟩ := ins_loc h1
  dsimp only at h2 k2 m2
  -- y ahead
  obtain ⟨a1, a2⟩ := m2 s.env (fun t ht => (put_env (hy t ht)).symm)
  obtain ⟨b1, b2⟩ := m1 ((⟨s.env, S1⟩ : AS).put y.dst v2).env (fun t ht => put_env (hx t ht))
  have e0 : ∀ T : AStore, (⟨((⟨s.env, S1⟩ : AS).put y.dst v2).env, T⟩ : AS).put x.dst v1 = (⟨((⟨s.env, S1⟩ : AS).put x.dst v1).env, T⟩ : AS).put y.dst v2 := fun T => by
    have q1 : (⟨((⟨s.env, S1⟩ : AS).put y.dst v2).env, T⟩ : AS) = (⟨s.env, T⟩ : AS).put y.dst v2 := by rw [put_mk (S1 := T), put_env_S (S1 := T) (S2 := S1)]
    have q2 : (⟨((⟨s.env, S1⟩ : AS).put x.dst v1).env, T⟩ : AS) = (⟨s.env, T⟩ : AS).put x.dst v1 := by rw [put_mk (S1 := T), put_env_S (S1 := T) (S2 := S1)]
    rw [q1, q2]
    exact (put_comm hd).symm
  rcases i3 with (i3 | i3) | i3
  · have e1 := k1 i3.1
    have e2 := k2 i3.2
    subst e1
    subst e2
    refine a1 _ ?_
    rw [put_mk]
    exact b1 _ (by rw [e0]; exact h2)
  · -- x is pure
    have e1 : S1 = s.S := k1 (by cases hk : x.kd <;> rw [hk] at i3 <;> first | rfl | simp [Kd.pureS] at i3)
    subst e1
    refine a1 _ ?_
    rw [put_mk, put_env_S (S1 := S2) (S2 := s.S)]
    exact b2 i3 S2 _ (by rw [e0]; exact h2)
  · -- y is pure
    have e2 : S2 = S1 := k2 (by cases hk : y.kd <;> rw [hk] at i3 <;> first | rfl | simp [Kd.pureS] at i3)
    subst e2
    refine a2 i3 s.S _ ?_
    rw [put_mk, put_env_S (S1 := s.S) (S2 := S2)]
    exact b1 _ (by rw [e0]; exact h2)
theorem Ins.go_mono {i : Ins} {K' : AS → Prop} (h : i.go P s K) (hk : ∀ s, K s → K' s) : i.go P s K' := by
  obtain ⟨v, S1, h1, h2, h3⟩ := ins_loc h
  exact (h3 s.env (fun _ _ => rfl)).1 K' (hk _ h1)
/-- The first of a row that nothing ahead of it touches comes first. -/
theorem run_front {pre : List Ins} {y : Ins} {post : List Ins} (hi : ∀ x ∈ pre, x.indep y = true) : ∀ {s : AS}, Run P (pre ++ y :: post) s K → y.go P s fun s' => Run P (pre ++ post) s' K := by
  induction pre with
  | nil => intro s h; exact h
  | cons x pre ih =>
    intro s h
    rw [List.cons_append, run_cons] at h
    have h2 : x.go P s fun s' => y.go P s' fun s'' => Run P (pre ++ post) s'' K := Ins.go_mono h fun s' hs => ih (fun z hz => hi z (by simp [hz])) hs
    have h3 := swap (hi x (by simp)) h2
    exact h3
end
end Go.Proofs.Ytkjbaabkaboaoaa
