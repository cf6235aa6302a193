/-
  Part 2 of the texts: AbsJ; AbsK; AbsL; AbsM; AbsN; Data; AbsT; AbsU; PTerm; PComb; PLam; PFrom; PRed; PRed2; PTo. Conditions: none.
-/
import Derived.Test.YtbiadmlfejnbcaaGreatDoorPart1
import Derived.Laws.MakeOwn
import Derived.Orders
import Derived.Lib.Atoi
import Derived.Lib.AtoiBound
import Derived.Lib.ItoaNum
namespace Go.Proofs.YtbiadmlfejnbcaaGreatDoor
open Go Go.RowKit
set_option linter.unusedVariables false
set_option maxHeartbeats 400000

def Ins.go (P : Program) (i : Ins) (s : AS) (K : AS → Prop) : Prop := match i.guard with
  | none => i.kd.goT P (i.dst.getD 0) s i.tag fun v s' => K (s'.put i.dst v)
  | some (g, want) => match s.env g with
    | .one (.st (.bool b)) => (b = want → i.kd.goT P (i.dst.getD 0) s i.tag fun v s' => K (s'.put i.dst v)) ∧ (¬ b = want → K (s.put i.dst (.tup [])))
    | .tup [] => K (s.put i.dst (.tup []))
    | _ => False
theorem run_cons (P : Program) (i : Ins) (l : List Ins) (s : AS) (K : AS → Prop) : Run P (i :: l) s K = i.go P s fun s' => Run P l s' K := rfl
def Ins.reads (i : Ins) : List Nat := (match i.guard with | none => [] | some (g, _) => [g]) ++ i.kd.reads
def Tag.isNone : Tag → Bool
  | .no => true
  | _ => false
/-- It reads the block a alone. -/
def Kd.readsAt : Kd → Bool
  | .load _ _ _ | .fieldAddr _ _ | .nilCheck _ => true
  | _ => false
def Kd.isStore : Kd → Bool
  | .store _ _ _ => true
  | _ => false
def Ins.leaves (a : Nat) (i : Ins) : Bool := match i.tag with
  | .keeps ks => ks.contains a
  | .onb b => i.kd.isStore && !(a == b)
  | .no => false
def Ins.apart (x y : Ins) : Bool := match x.tag with
  | .onb a => x.kd.readsAt && y.leaves a
  | _ => false
/-- x makes a box, y appends. -/
def Ins.makes (x y : Ins) : Bool := (match x with | ⟨some d, none, .alloc _ _, .no⟩ => !y.kd.reads.contains d && !(y.dst == some d) | _ => false) && (match y with | ⟨some _, none, .append _ _ _ _ _ _, _⟩ => true | _ => false)
/-- x looks for a place in a row, y stores. -/
def Ins.looks (x y : Ins) : Bool := (match x.kd with | .indexAddr _ _ _ => true | _ => false) && x.tag.isNone && y.kd.isStore
/-- Both store, in different blocks. -/
def Ins.beside (x y : Ins) : Bool := match x, y with
  | ⟨none, none, .store _ _ _, .onb a⟩, ⟨none, none, .store _ _ _, .onb b⟩ => !(a == b)
  | _, _ => false
def Ins.indep (x y : Ins) : Bool :=
  (match x.dst with | none => true | some d => !y.reads.contains d && !(y.dst == some d)) && (match y.dst with | none => true | some d => !x.reads.contains d) &&
  ((x.kd.keepS && y.kd.keepS) || (x.kd.pureS && x.tag.isNone) || (y.kd.pureS && y.tag.isNone) || (x.kd.keepS && y.kd.freshS) || x.apart y || y.apart x || x.makes y || y.makes x || x.looks y || y.looks x || x.beside y)

section
variable {P : Program} {s : AS} {K : AS → Prop}
theorem ptrOpd_reads {kd : Kd} {x : Opd} (h : kd.ptrOpd = some x) : ∀ t ∈ x.reads, t ∈ kd.reads := by
  cases kd <;> simp only [Kd.ptrOpd, Option.some.injEq, reduceCtorEq] at h <;> subst h <;> intro t ht <;> simp [Kd.reads, ht]
theorem tag_loc {t : Tag} {kd : Kd} {env' env2 : Nat → AV} {S1 : AStore} (h : t.ok kd s ⟨env2, S1⟩) (he : ∀ t ∈ kd.reads, env' t = s.env t) : t.ok kd ⟨env', s.S⟩ ⟨env', S1⟩ := by
  cases t with
  | no => trivial
  | keeps ks => exact h
  | onb id =>
    simp only [Tag.ok] at h ⊢
    split at h
    · rename_i x hx
      rw [ev_loc (s := s) (fun t ht => he t (ptrOpd_reads hx t ht))]
      exact h
    · exact h.elim
theorem tag_ext {t : Tag} {kd : Kd} {env' : Nat → AV} {S' : AStore} {s2 : AS} (h : t.ok kd s s2) (he : ∀ t ∈ kd.reads, env' t = s.env t) : t.ok kd ⟨env', S'⟩ ⟨env', S'⟩ := by
  cases t with
  | no => trivial
  | keeps ks => exact fun _ _ => rfl
  | onb id =>
    simp only [Tag.ok] at h ⊢
    split at h
    · rename_i x hx
      rw [ev_loc (s := s) (fun t ht => he t (ptrOpd_reads hx t ht))]
      exact h
    · exact h.elim
theorem goT_loc {kd : Kd} {d : Nat} {t : Tag} {K : AV → AS → Prop} (h : kd.goT P d s t K) : ∃ v S1, K v ⟨s.env, S1⟩ ∧ t.ok kd s ⟨s.env, S1⟩ ∧ (kd.keepS = true → S1 = s.S) ∧ ∀ env' : Nat → AV, (∀ t ∈ kd.reads, env' t = s.env t) →
    (∀ K' : AV → AS → Prop, K' v ⟨env', S1⟩ → kd.goT P d ⟨env', s.S⟩ t K') ∧ (kd.pureS = true → t.isNone = true → ∀ (S' : AStore) (K' : AV → AS → Prop), K' v ⟨env', S'⟩ → kd.goT P d ⟨env', S'⟩ t K') := by
  obtain ⟨v, S1, ⟨h0, h1⟩, h2, h3⟩ := go_loc h
  refine ⟨v, S1, h1, h0, h2, fun env' he => ⟨fun K' hk => ?_, fun hp ht S' K' hk => ?_⟩⟩
  · exact (h3 env' he).1 _ ⟨tag_loc h0 he, hk⟩
  · cases t with
    | no => exact (h3 env' he).2 hp S' _ ⟨trivial, hk⟩
    | onb id => cases ht
    | keeps ks => cases ht
theorem goT_mono {kd : Kd} {d : Nat} {t : Tag} {K K' : AV → AS → Prop} (h : kd.goT P d s t K) (hk : ∀ v s', t.ok kd s s' → K v s' → K' v s') : kd.goT P d s t K' := by
  obtain ⟨v, S1, h1, h0, h2, h3⟩ := goT_loc h
  exact (h3 s.env (fun _ _ => rfl)).1 _ (hk _ _ h0 h1)
theorem goT_go {kd : Kd} {d : Nat} {t : Tag} {K : AV → AS → Prop} (h : kd.goT P d s t K) : kd.go P d s K := by
  obtain ⟨v, S1, ⟨h0, h1⟩, h2, h3⟩ := go_loc h
  exact (h3 s.env (fun _ _ => rfl)).1 _ h1
theorem ins_loc {i : Ins} (h : i.go P s K) : ∃ v S1, K ((⟨s.env, S1⟩ : AS).put i.dst v) ∧ (i.kd.keepS = true → S1 = s.S) ∧ ∀ env' : Nat → AV, (∀ t ∈ i.reads, env' t = s.env t) →
    (∀ K' : AS → Prop, K' ((⟨env', S1⟩ : AS).put i.dst v) → i.go P ⟨env', s.S⟩ K') ∧ (i.kd.pureS = true → i.tag.isNone = true → ∀ (S' : AStore) (K' : AS → Prop), K' ((⟨env', S'⟩ : AS).put i.dst v) → i.go P ⟨env', S'⟩ K') := by
  obtain ⟨dst, guard, kd, tag⟩ := i
  unfold Ins.go at h
  dsimp only at h
  cases guard with
  | none =>
    dsimp only at h
    obtain ⟨v, S1, h1, _, h2, h3⟩ := goT_loc h
    refine ⟨v, S1, h1, h2, fun env' he => ?_⟩
    obtain ⟨k1, k2⟩ := h3 env' (fun t ht => he t (by simp [Ins.reads, ht]))
    exact ⟨fun K' hk => by unfold Ins.go; exact k1 _ hk, fun hp ht S' K' hk => by unfold Ins.go; exact k2 hp ht S' _ hk⟩
  | some gw =>
    obtain ⟨g, want⟩ := gw
    dsimp only at h
    have eg : ∀ env' : Nat → AV, (∀ t ∈ (Ins.mk dst (some (g, want)) kd tag).reads, env' t = s.env t) → env' g = s.env g := fun env' he => he g (by simp [Ins.reads])
    split at h
    · rename_i b e1
      by_cases hb : b = want
      · obtain ⟨v, S1, h1, _, h2, h3⟩ := goT_loc (h.1 hb)
        refine ⟨v, S1, h1, h2, fun env' he => ?_⟩
        obtain ⟨k1, k2⟩ := h3 env' (fun t ht => he t (by simp [Ins.reads, ht]))
        have e2 := (eg env' he).trans e1
        exact ⟨fun K' hk => by unfold Ins.go; simp only [e2]; exact ⟨fun _ => k1 _ hk, fun hn => absurd hb hn⟩, fun hp ht S' K' hk => by unfold Ins.go; simp only [e2]; exact ⟨fun _ => k2 hp ht S' _ hk, fun hn => absurd hb hn⟩⟩
      · refine ⟨.tup [], s.S, h.2 hb, fun _ => rfl, fun env' he => ?_⟩
        have e2 := (eg env' he).trans e1
        exact ⟨fun K' hk => by unfold Ins.go; simp only [e2]; exact ⟨fun h => absurd h hb, fun _ => hk⟩, fun hp ht S' K' hk => by unfold Ins.go; simp only [e2]; exact ⟨fun h => absurd h hb, fun _ => hk⟩⟩
    · rename_i e1
      refine ⟨.tup [], s.S, h, fun _ => rfl, fun env' he => ?_⟩
      have e2 := (eg env' he).trans e1
      exact ⟨fun K' hk => by unfold Ins.go; simp only [e2]; exact hk, fun hp ht S' K' hk => by unfold Ins.go; simp only [e2]; exact hk⟩
    · exact h.elim

/-- What only reads does the same where more blocks stand. -/
theorem goT_ext {kd : Kd} {d : Nat} {t : Tag} {K : AV → AS → Prop} (hk : kd.keepS = true) (h : kd.goT P d s t K) : ∃ v, K v s ∧ ∀ S', SubS s.S S' → ∀ env' : Nat → AV, (∀ t ∈ kd.reads, env' t = s.env t) → ∀ K' : AV → AS → Prop, K' v ⟨env', S'⟩ → kd.goT P d ⟨env', S'⟩ t K' := by
  obtain ⟨v, ⟨h0, h1⟩, h2⟩ := go_ext hk h
  exact ⟨v, h1, fun S' hs env' he K' hK => h2 S' hs env' he _ ⟨tag_ext h0 he, hK⟩⟩
theorem go_read {kd : Kd} {d a : Nat} {x : Opd} {K : AV → AS → Prop} (hr : kd.readsAt = true) (hx : kd.ptrOpd = some x) (hp : ptrIs a (s.ev x)) (h : kd.go P d s K) : ∃ v, K v s ∧ ∀ S', S' a = s.S a → ∀ env' : Nat → AV, (∀ t ∈ kd.reads, env' t = s.env t) → ∀ K' : AV → AS → Prop, K' v ⟨env', S'⟩ → kd.go P d ⟨env', S'⟩ K' := by
  cases kd
  case load g n y =>
    simp only [Kd.ptrOpd, Option.some.injEq] at hx
    subst hx
    simp only [Kd.go] at h
    split at h
    · rename_i cs e1
      rw [e1] at hp
      exact hp.elim
    · rename_i id m k off e1
      rw [e1] at hp
      have hp : id = a := hp
      subst hp
      split at h
      · rename_i cs e2
        refine ⟨_, h.2, fun S' hs env' he K' hK => ?_⟩
        have e3 : blkCells S' id m k = some cs := by
          unfold blkCells at e2 ⊢
          rw [hs]
          exact e2
        simp only [Kd.go, ev_loc he, e1, e3]
        exact ⟨h.1, hK⟩
      · exact h.elim
    · exact h.elim
  case fieldAddr off y =>
    simp only [Kd.ptrOpd, Option.some.injEq] at hx
    subst hx
    simp only [Kd.go] at h
    split at h
    · rename_i cs e1
      rw [e1] at hp
      exact hp.elim
    · rename_i id m k o e1
      rw [e1] at hp
      have hp : id = a := hp
      subst hp
      split at h
      · rename_i b e2
        refine ⟨_, h.2, fun S' hs env' he K' hK => ?_⟩
        rw [← hs] at e2
        simp only [Kd.go, ev_loc he, e1, e2]
        exact ⟨h.1, hK⟩
      · exact h.elim
    · exact h.elim
  case nilCheck y =>
    simp only [Kd.ptrOpd, Option.some.injEq] at hx
    subst hx
    simp only [Kd.go] at h
    split at h
    · rename_i cs e1
      rw [e1] at hp
      exact hp.elim
    · rename_i id m k o e1
      rw [e1] at hp
      have hp : id = a := hp
      subst hp
      split at h
      · rename_i b e2
        refine ⟨_, h.2, fun S' hs env' he K' hK => ?_⟩
        rw [← hs] at e2
        simp only [Kd.go, ev_loc he, e1, e2]
        exact ⟨h.1, hK⟩
      · exact h.elim
    · exact h.elim
  all_goals cases hr
theorem goT_read {kd : Kd} {d a : Nat} {K : AV → AS → Prop} (hr : kd.readsAt = true) (h : kd.goT P d s (.onb a) K) : ∃ v, K v s ∧ ∀ S', S' a = s.S a → ∀ env' : Nat → AV, (∀ t ∈ kd.reads, env' t = s.env t) → ∀ K' : AV → AS → Prop, K' v ⟨env', S'⟩ → kd.goT P d ⟨env', S'⟩ (.onb a) K' := by
  obtain ⟨v0, S1, _, h0, _, _⟩ := goT_loc h
  have h00 := h0
  simp only [Tag.ok] at h0
  split at h0
  · rename_i x hx
    obtain ⟨v, ⟨g0, g1⟩, g2⟩ := go_read hr hx h0 h
    exact ⟨v, g1, fun S' hs env' he K' hK => g2 S' hs env' he _ ⟨tag_ext g0 he, hK⟩⟩
  · exact h0.elim
theorem go_leaves {kd : Kd} {d a b : Nat} {x : Opd} {K : AV → AS → Prop} (hr : kd.isStore = true) (hab : ¬ a = b) (hx : kd.ptrOpd = some x) (hp : ptrIs b (s.ev x)) (h : kd.go P d s K) : kd.go P d s fun v s' => K v s' ∧ s'.S a = s.S a := by
  cases kd
  case store n y v =>
    simp only [Kd.ptrOpd, Option.some.injEq] at hx
    subst hx
    simp only [Kd.go] at h ⊢
    split at h
    · rename_i id m k off c e1 e2
      rw [e1] at hp
      have hp : id = b := hp
      subst hp
      split at h
      · rename_i e cs e3
        exact ⟨h.1, h.2.1, h.2.2.1, h.2.2.2, updE_ne _ hab _⟩
      · rename_i e w xs e3
        split at h
        · exact ⟨h.1, h.2.1, h.2.2.1, h.2.2.2, updE_ne _ hab _⟩
        · exact h.elim
      · exact h.elim
    · exact h.elim
  all_goals cases hr
theorem goT_leaves {kd : Kd} {d a : Nat} {dst : Option Nat} {g : Option (Nat × Bool)} {t : Tag} {K : AV → AS → Prop} (hl : (Ins.mk dst g kd t).leaves a = true) (h : kd.goT P d s t K) : kd.goT P d s t fun v s' => K v s' ∧ s'.S a = s.S a := by
  cases t with
  | no => cases hl
  | keeps ks =>
    simp only [Ins.leaves] at hl
    exact goT_mono h fun v s' hok hk => ⟨hk, hok a (List.contains_iff_mem.1 hl)⟩
  | onb b =>
    simp only [Ins.leaves, Bool.and_eq_true, Bool.not_eq_true', beq_eq_false_iff_ne] at hl
    obtain ⟨v0, S1, _, h0, _, _⟩ := goT_loc h
    simp only [Tag.ok] at h0
    split at h0
    · rename_i x hx
      have h2 := go_leaves hl.1 hl.2 hx h0 h
      obtain ⟨v, S2, ⟨⟨q1, q2⟩, q3⟩, _, q5⟩ := go_loc h2
      exact (q5 s.env (fun _ _ => rfl)).1 _ ⟨q1, q2, q3⟩
    · exact h0.elim
/-- The same for guarded operations: X is what another store must have in common with this one. -/
theorem ins_same {i : Ins} (X : AStore → Prop) (hg : ∀ {d : Nat} {K : AV → AS → Prop}, i.kd.goT P d s i.tag K → ∃ v, K v s ∧ ∀ S', X S' → ∀ env' : Nat → AV, (∀ t ∈ i.kd.reads, env' t = s.env t) → ∀ K' : AV → AS → Prop, K' v ⟨env', S'⟩ → i.kd.goT P d ⟨env', S'⟩ i.tag K') (h : i.go P s K) :
    ∃ v, K (s.put i.dst v) ∧ ∀ S', X S' → ∀ env' : Nat → AV, (∀ t ∈ i.reads, env' t = s.env t) → ∀ K' : AS → Prop, K' ((⟨env', S'⟩ : AS).put i.dst v) → i.go P ⟨env', S'⟩ K' := by
  obtain ⟨dst, guard, kd, tag⟩ := i
  unfold Ins.go at h
  dsimp only at h hg
  cases guard with
  | none =>
    dsimp only at h
    obtain ⟨v, h1, h2⟩ := hg h
    exact ⟨v, h1, fun S' hs env' he K' hK => by unfold Ins.go; exact h2 S' hs env' (fun t ht => he t (by simp [Ins.reads, ht])) _ hK⟩
  | some gw =>
    obtain ⟨g, want⟩ := gw
    dsimp only at h
    have eg : ∀ env' : Nat → AV, (∀ t ∈ (Ins.mk dst (some (g, want)) kd tag).reads, env' t = s.env t) → env' g = s.env g := fun env' he => he g (by simp [Ins.reads])
    split at h
    · rename_i b e1
      by_cases hb : b = want
      · obtain ⟨v, h1, h2⟩ := hg (h.1 hb)
        refine ⟨v, h1, fun S' hs env' he K' hK => ?_⟩
        have e2 := (eg env' he).trans e1
        unfold Ins.go
        simp only [e2]
        exact ⟨fun _ => h2 S' hs env' (fun t ht => he t (by simp [Ins.reads, ht])) _ hK, fun hn => absurd hb hn⟩
      · refine ⟨.tup [], h.2 hb, fun S' hs env' he K' hK => ?_⟩
        have e2 := (eg env' he).trans e1
        unfold Ins.go
        simp only [e2]
        exact ⟨fun h => absurd h hb, fun _ => hK⟩
    · rename_i e1
      refine ⟨.tup [], h, fun S' hs env' he K' hK => ?_⟩
      have e2 := (eg env' he).trans e1
      unfold Ins.go
      simp only [e2]
      exact hK
    · exact h.elim
theorem ins_ext {i : Ins} (hk : i.kd.keepS = true) (h : i.go P s K) : ∃ v, K (s.put i.dst v) ∧ ∀ S', SubS s.S S' → ∀ env' : Nat → AV, (∀ t ∈ i.reads, env' t = s.env t) → ∀ K' : AS → Prop, K' ((⟨env', S'⟩ : AS).put i.dst v) → i.go P ⟨env', S'⟩ K' :=
  ins_same (SubS s.S) (fun h => goT_ext hk h) h
theorem ins_read {i : Ins} {a : Nat} (ht : i.tag = .onb a) (hr : i.kd.readsAt = true) (h : i.go P s K) : ∃ v, K (s.put i.dst v) ∧ ∀ S', S' a = s.S a → ∀ env' : Nat → AV, (∀ t ∈ i.reads, env' t = s.env t) → ∀ K' : AS → Prop, K' ((⟨env', S'⟩ : AS).put i.dst v) → i.go P ⟨env', S'⟩ K' :=
  ins_same (fun S' => S' a = s.S a) (fun h => by rw [ht] at h ⊢; exact goT_read hr h) h
/-- What an operation leaves as it was. -/
theorem ins_keeps {i : Ins} (X : AStore → Prop) (h0 : X s.S) (hg : ∀ {d : Nat} {K : AV → AS → Prop}, i.kd.goT P d s i.tag K → i.kd.goT P d s i.tag fun v s' => K v s' ∧ X s'.S) (h : i.go P s K) : i.go P s fun s' => K s' ∧ X s'.S := by
  obtain ⟨dst, guard, kd, tag⟩ := i
  have hp : ∀ (s' : AS) (v : AV), (s'.put dst v).S = s'.S := fun s' v => by cases dst <;> rfl
  unfold Ins.go at h ⊢
  dsimp only at h hg ⊢
  have key : ∀ {K : AS → Prop}, (kd.goT P (dst.getD 0) s tag fun v s' => K (s'.put dst v)) → kd.goT P (dst.getD 0) s tag fun v s' => K (s'.put dst v) ∧ X (s'.put dst v).S := fun {K} h =>
    goT_mono (hg h) fun v s' _ hk => ⟨hk.1, by rw [hp]; exact hk.2⟩
  cases guard with
  | none => exact key h
  | some gw =>
    obtain ⟨g, want⟩ := gw
    dsimp only at h ⊢
    split at h
    · rename_i b e1
      exact ⟨fun hb => key (h.1 hb), fun hb => ⟨h.2 hb, by rw [hp]; exact h0⟩⟩
    · exact ⟨h, by rw [hp]; exact h0⟩
    · exact h.elim
theorem ins_fresh {i : Ins} (hf : i.kd.freshS = true) (h : i.go P s K) : i.go P s fun s' => K s' ∧ SubS s.S s'.S :=
  ins_keeps (SubS s.S) (fun _ _ hb => hb) (fun {d K} h => by
    obtain ⟨v, S2, ⟨⟨q1, q2⟩, q3⟩, _, q5⟩ := go_loc (go_fresh hf h)
    exact (q5 s.env (fun _ _ => rfl)).1 _ ⟨q1, q2, q3⟩) h
theorem ins_leaves {i : Ins} {a : Nat} (hl : i.leaves a = true) (h : i.go P s K) : i.go P s fun s' => K s' ∧ s'.S a = s.S a :=
  ins_keeps (fun S => S a = s.S a) rfl (fun h => goT_leaves (dst := i.dst) (g := i.guard) hl h) h
theorem put_env {env : Nat → AV} {S1 : AStore} {dd : Option Nat} {v : AV} {t : Nat} (h : dd ≠ some t) : ((⟨env, S1⟩ : AS).put dd v).env t = env t := by
  cases dd with
  | none => rfl
  | some d => exact updE_ne _ (fun e => h (by rw [e])) _
theorem put_comm {env : Nat → AV} {S1 : AStore} {d1 d2 : Option Nat} {v1 v2 : AV} (h : ∀ d, d1 = some d → d2 ≠ some d) : ((⟨env, S1⟩ : AS).put d1 v1).put d2 v2 = ((⟨env, S1⟩ : AS).put d2 v2).put d1 v1 := by
  cases d1 with
  | none => rfl
  | some a =>
    cases d2 with
    | none => rfl
    | some b =>
      have hne : b ≠ a := fun e => h a rfl (by rw [e])
      simp only [AS.put, AS.mk.injEq, and_true]
      funext k
      unfold updE
      by_cases h1 : k = a
      · subst h1
        rw [if_neg (fun e => hne e.symm), if_pos rfl, if_pos rfl]
      · rw [if_neg h1, if_neg h1]
theorem put_S {env : Nat → AV} {S1 : AStore} {dd : Option Nat} {v : AV} : ((⟨env, S1⟩ : AS).put dd v).S = S1 := by cases dd <;> rfl
theorem put_mk {env : Nat → AV} {S1 : AStore} {dd : Option Nat} {v : AV} : (⟨env, S1⟩ : AS).put dd v = ⟨((⟨env, S1⟩ : AS).put dd v).env, S1⟩ := by cases dd <;> rfl
theorem put_env_S {env : Nat → AV} {S1 S2 : AStore} {dd : Option Nat} {v : AV} : ((⟨env, S1⟩ : AS).put dd v).env = ((⟨env, S2⟩ : AS).put dd v).env := by cases dd <;> rfl

theorem later {x y : Ins} (hx : ∀ t ∈ x.reads, y.dst ≠ some t) (hy : ∀ t ∈ y.reads, x.dst ≠ some t) (hd : ∀ d, x.dst = some d → y.dst ≠ some d) (X : AStore → Prop) {v : AV}
    (q2 : ∀ S', X S' → ∀ env' : Nat → AV, (∀ t ∈ x.reads, env' t = s.env t) → ∀ K' : AS → Prop, K' ((⟨env', S'⟩ : AS).put x.dst v) → x.go P ⟨env', S'⟩ K')
    (q3 : y.go P (s.put x.dst v) fun s' => K s' ∧ X s'.S) : y.go P s fun s2 => x.go P s2 K := by
  have hS : (s.put x.dst v).S = s.S := by cases x.dst <;> rfl
  obtain ⟨u, S3, r1, r2, r3⟩ := ins_loc q3
  have r1b : X S3 := by
    have := r1.2
    rwa [put_S] at this
  obtain ⟨c1, _⟩ := r3 s.env (fun t ht => by
    cases hxd : x.dst with
    | none => rfl
    | some d => exact (updE_ne _ (fun e => hy t ht (by rw [hxd, e])) _).symm)
  rw [hS] at c1
  refine c1 _ ?_
  rw [put_mk]
  refine q2 S3 r1b _ (fun t ht => put_env (hx t ht)) _ ?_
  have hsx : (s.put x.dst v).env = ((⟨s.env, S3⟩ : AS).put x.dst v).env := by cases x.dst <;> rfl
  have e4 : (⟨((⟨s.env, S3⟩ : AS).put y.dst u).env, S3⟩ : AS).put x.dst v = (⟨(s.put x.dst v).env, S3⟩ : AS).put y.dst u := by
    rw [hsx, ← put_mk, ← put_mk]
    exact (put_comm hd).symm
  rw [e4]
  exact r1.1

/-! ### a box made, and a row appended to -/
def NotRow : Option ABlk → Prop
  | none => True
  | some (.box _ _) => True
  | _ => False
theorem notRow_arow {e : TypeId} {w : Nat} {xs : List (List SV)} : ¬ NotRow (some (.arow e w xs)) := fun h => h
theorem notRow_mrow {e : TypeId} {w : Nat} {xs : List (List SV)} : ¬ NotRow (some (.mrow e w xs)) := fun h => h
theorem listOf_row {S : AStore} {id n : Nat} {ys : List (List SV)} (h : listOf S (.row id n) = some ys) : ¬ NotRow (S id) := by
  intro hn
  simp only [listOf] at h
  cases hS : S id with
  | none => rw [hS] at h; cases h
  | some b =>
    rw [hS] at h hn
    cases b <;> first | exact hn | cases h
theorem listOf_off {S T : AStore} {c : Nat} (hn : NotRow (S c)) (ho : ∀ i, i ≠ c → T i = S i) {a : AC} {ys : List (List SV)} (h : listOf S a = some ys) : listOf T a = some ys := by
  cases a
  case row id n =>
    have hne : id ≠ c := fun e => by subst e; exact listOf_row h hn
    simp only [listOf] at h ⊢
    rw [ho id hne]
    exact h
  case st c => cases c <;> first | exact h | cases h
  all_goals first | exact h | cases h
theorem append_at {mu : Bool} {e : TypeId} {w bytes d : Nat} {x y : Opd} {K : AV → AS → Prop} (h : (Kd.append mu e w bytes x y).go P d s K) :
    ∃ v id b, K v ⟨s.env, updE s.S id (some b)⟩ ∧ (∀ c, NotRow (s.S c) → d ≠ c → id ≠ c) ∧ ∀ (c : Nat) (env' : Nat → AV) (T : AStore), id ≠ c → NotRow (s.S c) → (∀ t ∈ (Kd.append mu e w bytes x y).reads, env' t = s.env t) → (∀ i, i ≠ c → T i = s.S i) → ∀ K' : AV → AS → Prop, K' v ⟨env', updE T id (some b)⟩ → (Kd.append mu e w bytes x y).go P d ⟨env', T⟩ K' := by
  have hex : ∀ env' : Nat → AV, ∀ T, (∀ t ∈ (Kd.append mu e w bytes x y).reads, env' t = s.env t) → (⟨env', T⟩ : AS).ev x = s.ev x ∧ (⟨env', T⟩ : AS).ev y = s.ev y := fun env' T hr =>
    ⟨ev_loc fun t ht => hr t (by simp [Kd.reads, ht]), ev_loc fun t ht => hr t (by simp [Kd.reads, ht])⟩
  simp only [Kd.go] at h
  split at h
  · rename_i cx cy e1 e2
    split at h
    · rename_i ys e3
      obtain ⟨hw, h⟩ := h
      split at h
      · rename_i xs
        refine ⟨_, d, _, h.2.2.2.2.2, fun c _ hc => hc, fun c env' T hid hn hr ho K' hK => ?_⟩
        obtain ⟨q1, q2⟩ := hex env' T hr
        simp only [Kd.go, q1, q2, e1, e2, listOf_off hn ho e3]
        exact ⟨hw, (ho d hid).trans h.1, h.2.1, h.2.2.1, h.2.2.2.1, h.2.2.2.2.1, hK⟩
      · rename_i id m
        split at h
        · rename_i e' w' xs e4
          refine ⟨_, id, _, h.2.2.2, fun c hn _ he => by subst he; rw [e4] at hn; exact hn, fun c env' T hid hn hr ho K' hK => ?_⟩
          obtain ⟨q1, q2⟩ := hex env' T hr
          simp only [Kd.go, q1, q2, e1, e2, listOf_off hn ho e3, ho id hid, e4]
          exact ⟨hw, h.1, h.2.1, h.2.2.1, hK⟩
        · rename_i e' w' xs e4
          refine ⟨_, id, _, h.2.2.2, fun c hn _ he => by subst he; rw [e4] at hn; exact hn, fun c env' T hid hn hr ho K' hK => ?_⟩
          obtain ⟨q1, q2⟩ := hex env' T hr
          simp only [Kd.go, q1, q2, e1, e2, listOf_off hn ho e3, ho id hid, e4]
          exact ⟨hw, h.1, h.2.1, h.2.2.1, hK⟩
        · exact h.elim
      · exact h.elim
    · exact h.elim
  · exact h.elim
theorem updE_swap {α : Type} {f : Nat → α} {i j : Nat} {a b : α} (h : i ≠ j) : updE (updE f i a) j b = updE (updE f j b) i a := by
  funext k
  unfold updE
  by_cases h1 : k = j <;> by_cases h2 : k = i <;> simp_all
theorem updE_far {α : Type} {f : Nat → α} {i j : Nat} {a : α} (h : j ≠ i) : updE f i a j = f j := by
  unfold updE
  simp [h]
theorem swap_makes {x y : Ins} (hm : x.makes y = true) (h : x.go P s fun s1 => y.go P s1 K) : y.go P s fun s2 => x.go P s2 K := by
  obtain ⟨xd, xg, xk, xt⟩ := x
  obtain ⟨yd, yg, yk, yt⟩ := y
  unfold Ins.makes at hm
  rw [Bool.and_eq_true] at hm
  obtain ⟨m1, m2⟩ := hm
  split at m1
  · rename_i d e z hx
    cases hx
    split at m2
    · rename_i d' mu ty w bytes x' y' t hy
      cases hy
      simp only [Bool.and_eq_true, Bool.not_eq_true', beq_eq_false_iff_ne, ne_eq, Option.some.injEq] at m1
      obtain ⟨r1, r2⟩ := m1
      have hrd : ∀ k ∈ (Kd.append mu ty w bytes x' y').reads, k ≠ d := fun k hk he => by
        subst he
        rw [List.contains_iff_mem.2 hk] at r1
        cases r1
      simp only [Ins.go, Kd.goT, Kd.go, AS.set, AS.put, Option.getD_some, Tag.ok] at h
      obtain ⟨h1, _, h2⟩ := h
      obtain ⟨v, id, b, k1, k2, k3⟩ := append_at (K := fun v s' => yt.ok (.append mu ty w bytes x' y') ⟨updE s.env d (.one (.ptr d 1 0 0)), updE s.S d (some (.box e z))⟩ s' ∧ K (s'.put (some d') v)) h2
      have hnr : NotRow ((updE s.S d (some (.box e z))) d) := by unfold updE; rw [if_pos rfl]; trivial
      have hid : id ≠ d := k2 d hnr r2
      suffices key : (Kd.append mu ty w bytes x' y').go P d' s fun v s' => yt.ok (.append mu ty w bytes x' y') s s' ∧ (⟨some d, none, .alloc e z, .no⟩ : Ins).go P (s'.put (some d') v) K from key
      refine k3 d s.env s.S hid hnr (fun k hk => (updE_far (hrd k hk)).symm) (fun i hi => (updE_far hi).symm) _ ⟨?_, ?_⟩
      · have k0 := k1.1
        cases yt with
        | no => trivial
        | keeps ks =>
          intro k hk
          have := k0 k hk
          simp only at this ⊢
          by_cases hki : k = id
          · subst hki
            have e0 : ∀ T : AStore, updE T k (some b) k = some b := fun T => by unfold updE; rw [if_pos rfl]
            rw [updE_far hid, e0] at this
            exact (e0 _).trans this
          · exact updE_far hki
        | onb i => exact k0
      · simp only [Ins.go, Kd.goT, Kd.go, AS.set, AS.put, Option.getD_some, Tag.ok]
        refine ⟨by rw [updE_far (Ne.symm hid)]; exact h1, trivial, ?_⟩
        have k4 := k1.2
        simp only [AS.put] at k4
        rw [updE_swap (Ne.symm hid), updE_swap (f := s.env) (Ne.symm r2)] at k4
        exact k4
    · cases m2
  · cases m1
theorem swap_makes2 {x y : Ins} (hm : x.makes y = true) (h : y.go P s fun s1 => x.go P s1 K) : x.go P s fun s2 => y.go P s2 K := by
  obtain ⟨xd, xg, xk, xt⟩ := x
  obtain ⟨yd, yg, yk, yt⟩ := y
  unfold Ins.makes at hm
  rw [Bool.and_eq_true] at hm
  obtain ⟨m1, m2⟩ := hm
  split at m1
  · rename_i d e z hx
    cases hx
    split at m2
    · rename_i d' mu ty w bytes x' y' t hy
      cases hy
      simp only [Bool.and_eq_true, Bool.not_eq_true', beq_eq_false_iff_ne, ne_eq, Option.some.injEq] at m1
      obtain ⟨r1, r2⟩ := m1
      have hrd : ∀ k ∈ (Kd.append mu ty w bytes x' y').reads, k ≠ d := fun k hk he => by
        subst he
        rw [List.contains_iff_mem.2 hk] at r1
        cases r1
      have h' : (Kd.append mu ty w bytes x' y').go P d' s fun v s' => yt.ok (.append mu ty w bytes x' y') s s' ∧ (⟨some d, none, .alloc e z, .no⟩ : Ins).go P (s'.put (some d') v) K := h
      obtain ⟨v, id, b, k1, k2, k3⟩ := append_at h'
      obtain ⟨k0, k1⟩ := k1
      simp only [Ins.go, Kd.goT, Kd.go, AS.set, AS.put, Option.getD_some, Tag.ok] at k1
      obtain ⟨c1, _, c2⟩ := k1
      have hid : id ≠ d := fun he => by
        subst he
        unfold updE at c1
        rw [if_pos rfl] at c1
        cases c1
      rw [updE_far (Ne.symm hid)] at c1
      have hnr : NotRow (s.S d) := by rw [c1]; trivial
      refine (show s.S d = none ∧ True ∧ (⟨some d', none, .append mu ty w bytes x' y', yt⟩ : Ins).go P ⟨updE s.env d (.one (.ptr d 1 0 0)), updE s.S d (some (.box e z))⟩ K from ⟨c1, trivial, ?_⟩)
      suffices key : (Kd.append mu ty w bytes x' y').go P d' ⟨updE s.env d (.one (.ptr d 1 0 0)), updE s.S d (some (.box e z))⟩ fun v s' => yt.ok (.append mu ty w bytes x' y') ⟨updE s.env d (.one (.ptr d 1 0 0)), updE s.S d (some (.box e z))⟩ s' ∧ K (s'.put (some d') v) from key
      refine k3 d _ _ hid hnr (fun k hk => updE_far (hrd k hk)) (fun i hi => updE_far hi) _ ⟨?_, ?_⟩
      · cases yt with
        | no => trivial
        | keeps ks =>
          intro k hk
          have := k0 k hk
          simp only at this ⊢
          by_cases hki : k = id
          · subst hki
            have e0 : ∀ T : AStore, updE T k (some b) k = some b := fun T => by unfold updE; rw [if_pos rfl]
            rw [e0] at this
            exact (e0 _).trans (this.trans (updE_far hid).symm)
          · exact updE_far hki
        | onb i => exact k0
      · show K ⟨updE (updE s.env d (.one (.ptr d 1 0 0))) d' v, updE (updE s.S d (some (.box e z))) id (some b)⟩
        rw [updE_swap (Ne.symm hid), updE_swap (f := s.env) (Ne.symm r2)]
        exact c2
    · cases m2
  · cases m1
/-! ### rows stay as they are, but for what the written ones hold -/
def RowsOk (S T : AStore) : Prop := ∀ id, (∀ e w xs, S id = some (.arow e w xs) ↔ T id = some (.arow e w xs)) ∧ ∀ e w n, (∃ xs, S id = some (.mrow e w xs) ∧ xs.length = n) ↔ (∃ xs, T id = some (.mrow e w xs) ∧ xs.length = n)
theorem RowsOk.refl (S : AStore) : RowsOk S S := fun id => ⟨fun _ _ _ => Iff.rfl, fun _ _ _ => Iff.rfl⟩
theorem RowsOk.symm {S T : AStore} (h : RowsOk S T) : RowsOk T S := fun id => ⟨fun e w xs => ((h id).1 e w xs).symm, fun e w n => ((h id).2 e w n).symm⟩
theorem rowsOk_box {S : AStore} {a : Nat} {e e' : TypeId} {cs cs' : List AC} (h : S a = some (.box e cs)) : RowsOk S (updE S a (some (.box e' cs'))) := fun id => by
  by_cases hi : id = a
  · subst hi
    rw [h, updE_same]
    refine ⟨fun _ _ _ => ⟨fun q => (by cases q), fun q => (by cases q)⟩, fun _ _ _ => ⟨fun ⟨_, q, _⟩ => (by cases q), fun ⟨_, q, _⟩ => (by cases q)⟩⟩
  · rw [updE_ne _ hi]
    exact ⟨fun _ _ _ => Iff.rfl, fun _ _ _ => Iff.rfl⟩
theorem rowsOk_mrow {S : AStore} {a : Nat} {e : TypeId} {w : Nat} {xs ys : List (List SV)} (h : S a = some (.mrow e w xs)) (hl : ys.length = xs.length) : RowsOk S (updE S a (some (.mrow e w ys))) := fun id => by
  by_cases hi : id = a
  · subst hi
    rw [h, updE_same]
    refine ⟨fun _ _ _ => ⟨fun q => (by cases q), fun q => (by cases q)⟩, fun e2 w2 n => ⟨fun ⟨zs, q, hn⟩ => ?_, fun ⟨zs, q, hn⟩ => ?_⟩⟩
    · cases q
      exact ⟨ys, rfl, hl.trans hn⟩
    · cases q
      exact ⟨xs, rfl, hl.symm.trans hn⟩
  · rw [updE_ne _ hi]
    exact ⟨fun _ _ _ => Iff.rfl, fun _ _ _ => Iff.rfl⟩
theorem stC_rows {S T : AStore} (h : RowsOk S T) {c : AC} {x : SV} (hx : stC S c = some x) : stC T c = some x := by
  cases c with
  | row id n =>
    simp only [stC] at hx ⊢
    split at hx
    · rename_i e w xs e1
      rw [((h id).1 e w xs).1 e1]
      exact hx
    · cases hx
  | fn f caps => cases caps <;> exact hx
  | _ => exact hx
theorem stCs_rows {S T : AStore} (h : RowsOk S T) : ∀ {cs : List AC} {xs : List SV}, stCs S cs = some xs → stCs T cs = some xs
  | [], xs, hx => hx
  | c :: cs, xs, hx => by
    simp only [stCs] at hx ⊢
    split at hx
    · rename_i x xs' h1 h2
      rw [stC_rows h h1, stCs_rows h h2]
      exact hx
    · cases hx
/-- What a store does: at one block; and the same elsewhere. -/
theorem store_at {n d a : Nat} {x v : Opd} {K : AV → AS → Prop} (hp : ptrIs a (s.ev x)) (h : (Kd.store n x v).go P d s K) :
    ∃ b, K .any ⟨s.env, updE s.S a (some b)⟩ ∧ (∀ T : AStore, T a = s.S a → RowsOk T (updE T a (some b))) ∧ ∀ (env' : Nat → AV) (T : AStore), (∀ t ∈ (Kd.store n x v).reads, env' t = s.env t) → T a = s.S a → RowsOk s.S T → ∀ K' : AV → AS → Prop, K' .any ⟨env', updE T a (some b)⟩ → (Kd.store n x v).go P d ⟨env', T⟩ K' := by
  have hex : ∀ env' : Nat → AV, ∀ T, (∀ t ∈ (Kd.store n x v).reads, env' t = s.env t) → (⟨env', T⟩ : AS).ev x = s.ev x ∧ (⟨env', T⟩ : AS).ev v = s.ev v := fun env' T hr =>
    ⟨ev_loc fun t ht => hr t (by simp [Kd.reads, ht]), ev_loc fun t ht => hr t (by simp [Kd.reads, ht])⟩
  simp only [Kd.go] at h
  split at h
  · rename_i id m k off c e1 e2
    rw [e1] at hp
    have hp : id = a := hp
    subst hp
    split at h
    · rename_i e cs e3
      refine ⟨_, h.2.2.2, fun T hT => rowsOk_box (hT.trans e3), fun env' T hr hT hR K' hK => ?_⟩
      obtain ⟨q1, q2⟩ := hex env' T hr
      simp only [Kd.go, q1, q2, e1, e2, hT, e3]
      exact ⟨h.1, h.2.1, h.2.2.1, hK⟩
    · rename_i e w xs e3
      split at h
      · rename_i c' y e4 e5
        refine ⟨_, h.2.2.2, fun T hT => rowsOk_mrow (hT.trans e3) (by simp), fun env' T hr hT hR K' hK => ?_⟩
        obtain ⟨q1, q2⟩ := hex env' T hr
        simp only [Kd.go, q1, q2, e1, e2, hT, e3, stCs_rows hR e4, e5]
        exact ⟨h.1, h.2.1, h.2.2.1, hK⟩
      · exact h.elim
    · exact h.elim
  · exact h.elim
theorem go_store_rows {kd : Kd} (hk : kd.isStore = true) {d : Nat} {K : AV → AS → Prop} (h : kd.go P d s K) : kd.go P d s fun v s' => K v s' ∧ RowsOk s.S s'.S := by
  cases kd <;> try (cases hk; done)
  case store n x v =>
    have h0 := h
    simp only [Kd.go] at h0
    split at h0
    · rename_i id m k off c e1 e2
      obtain ⟨b, k1, k2, k3⟩ := store_at (a := id) (by rw [e1]; rfl) h
      exact k3 s.env s.S (fun _ _ => rfl) rfl (RowsOk.refl _) _ ⟨k1, k2 s.S rfl⟩
    · exact h0.elim
theorem ins_rows {i : Ins} (hk : i.kd.isStore = true) (h : i.go P s K) : i.go P s fun s' => K s' ∧ RowsOk s.S s'.S :=
  ins_keeps (RowsOk s.S) (RowsOk.refl _) (fun {d K} h => by
    obtain ⟨v, S2, ⟨⟨q1, q2⟩, q3⟩, _, q5⟩ := go_loc (go_store_rows hk h)
    exact (q5 s.env (fun _ _ => rfl)).1 _ ⟨q1, q2, q3⟩) h
theorem go_index_rows {w d : Nat} {x y : Opd} {K : AV → AS → Prop} (h : (Kd.indexAddr w x y).go P d s K) : ∃ v, K v s ∧ ∀ S', RowsOk s.S S' → ∀ env' : Nat → AV, (∀ t ∈ (Kd.indexAddr w x y).reads, env' t = s.env t) → ∀ K' : AV → AS → Prop, K' v ⟨env', S'⟩ → (Kd.indexAddr w x y).go P d ⟨env', S'⟩ K' := by
  have hex : ∀ env' : Nat → AV, ∀ T, (∀ t ∈ (Kd.indexAddr w x y).reads, env' t = s.env t) → (⟨env', T⟩ : AS).ev x = s.ev x ∧ (⟨env', T⟩ : AS).ev y = s.ev y := fun env' T hr =>
    ⟨ev_loc fun t ht => hr t (by simp [Kd.reads, ht]), ev_loc fun t ht => hr t (by simp [Kd.reads, ht])⟩
  simp only [Kd.go] at h
  split at h
  · rename_i c ki n e1 e2
    split at h
    · rename_i xs
      unfold idxK at h
      split at h
      · rename_i z hz
        refine ⟨_, h.2.2, fun S' hS env' hr K' hK => ?_⟩
        obtain ⟨q1, q2⟩ := hex env' S' hr
        simp only [Kd.go, q1, q2, e1, e2, idxK, hz]
        exact ⟨h.1, h.2.1, hK⟩
      · exact h.2.elim
    · rename_i xs
      unfold idxK at h
      split at h
      · rename_i z hz
        refine ⟨_, h.2.2, fun S' hS env' hr K' hK => ?_⟩
        obtain ⟨q1, q2⟩ := hex env' S' hr
        simp only [Kd.go, q1, q2, e1, e2, idxK, hz]
        exact ⟨h.1, h.2.1, hK⟩
      · exact h.2.elim
    · rename_i id m
      split at h
      · rename_i e w' xs e3
        obtain ⟨h1, h2, h⟩ := h
        unfold idxK at h
        split at h
        · rename_i z hz
          refine ⟨_, h.2, fun S' hS env' hr K' hK => ?_⟩
          obtain ⟨q1, q2⟩ := hex env' S' hr
          simp only [Kd.go, q1, q2, e1, e2, ((hS id).1 e w' xs).1 e3, idxK, hz]
          exact ⟨h1, h2, h.1, hK⟩
        · exact h.2.elim
      · rename_i e w' xs e3
        refine ⟨_, h.2.2.2.2, fun S' hS env' hr K' hK => ?_⟩
        obtain ⟨ys, e4, e5⟩ := ((hS id).2 e w' xs.length).1 ⟨xs, e3, rfl⟩
        obtain ⟨q1, q2⟩ := hex env' S' hr
        simp only [Kd.go, q1, q2, e1, e2, e4, e5]
        exact ⟨h.1, h.2.1, h.2.2.1, h.2.2.2.1, hK⟩
      · exact h.elim
    · exact h.elim
  · exact h.elim
theorem ins_index {i : Ins} (hk : (match i.kd with | .indexAddr _ _ _ => true | _ => false) = true) (ht : i.tag.isNone = true) (h : i.go P s K) : ∃ v, K (s.put i.dst v) ∧ ∀ S', RowsOk s.S S' → ∀ env' : Nat → AV, (∀ t ∈ i.reads, env' t = s.env t) → ∀ K' : AS → Prop, K' ((⟨env', S'⟩ : AS).put i.dst v) → i.go P ⟨env', S'⟩ K' :=
  ins_same (RowsOk s.S) (fun {d K} h => by
    obtain ⟨dst, guard, kd, tag⟩ := i
    cases tag <;> try (cases ht; done)
    cases kd <;> try (cases hk; done)
    case indexAddr w x y =>
      obtain ⟨v, q1, q2⟩ := go_index_rows h
      exact ⟨v, q1.2, fun S' hS env' he K' hK => q2 S' hS env' he _ ⟨trivial, hK⟩⟩) h
theorem swap_beside {x y : Ins} (hb : x.beside y = true) (h : x.go P s fun s1 => y.go P s1 K) : y.go P s fun s2 => x.go P s2 K := by
  unfold Ins.beside at hb
  split at hb
  · rename_i n1 p1 v1 a n2 p2 v2 b
    have hab : ¬ a = b := by simpa using hb
    have h' : (Kd.store n1 p1 v1).go P 0 s fun v s' => ptrIs a (s.ev p1) ∧ (⟨none, none, .store n2 p2 v2, .onb b⟩ : Ins).go P s' K := h
    have hpa : ptrIs a (s.ev p1) := by
      obtain ⟨v, S1, h1, _⟩ := go_loc h'
      exact h1.1
    obtain ⟨bx, k1, k2, k3⟩ := store_at hpa h'
    obtain ⟨_, k1⟩ := k1
    have h2 : (Kd.store n2 p2 v2).go P 0 ⟨s.env, updE s.S a (some bx)⟩ fun v s' => ptrIs b ((⟨s.env, updE s.S a (some bx)⟩ : AS).ev p2) ∧ K s' := k1
    have hpb : ptrIs b ((⟨s.env, updE s.S a (some bx)⟩ : AS).ev p2) := by
      obtain ⟨v, S1, h1, _⟩ := go_loc h2
      exact h1.1
    obtain ⟨by_, m1, m2, m3⟩ := store_at hpb h2
    obtain ⟨_, m1⟩ := m1
    have hSb : s.S b = updE s.S a (some bx) b := (updE_ne _ (fun e => hab e.symm) _).symm
    have ep : (⟨s.env, updE s.S a (some bx)⟩ : AS).ev p2 = s.ev p2 := ev_loc fun _ _ => rfl
    rw [ep] at hpb
    suffices key : (Kd.store n2 p2 v2).go P 0 s fun v s' => ptrIs b (s.ev p2) ∧ (⟨none, none, .store n1 p1 v1, .onb a⟩ : Ins).go P s' K from key
    refine m3 s.env s.S (fun _ _ => rfl) hSb (k2 s.S rfl).symm _ ⟨hpb, ?_⟩
    suffices key : (Kd.store n1 p1 v1).go P 0 ⟨s.env, updE s.S b (some by_)⟩ fun v s' => ptrIs a ((⟨s.env, updE s.S b (some by_)⟩ : AS).ev p1) ∧ K s' from key
    refine k3 s.env _ (fun _ _ => rfl) (updE_ne _ hab _) (m2 s.S hSb) _ ⟨by rw [show (⟨s.env, updE s.S b (some by_)⟩ : AS).ev p1 = s.ev p1 from ev_loc fun _ _ => rfl]; exact hpa, ?_⟩
    rw [updE_swap (fun e => hab e.symm)]
    exact m1
  · cases hb
theorem indep_facts {x y : Ins} (i1 : (match x.dst with | none => true | some d => !y.reads.contains d && !(y.dst == some d)) = true) (i2 : (match y.dst with | none => true | some d => !x.reads.contains d) = true) :
    (∀ t ∈ x.reads, y.dst ≠ some t) ∧ (∀ t ∈ y.reads, x.dst ≠ some t) ∧ ∀ d, x.dst = some d → y.dst ≠ some d := by
  refine ⟨fun t ht e => ?_, fun t ht e => ?_, fun d e e' => ?_⟩
  · rw [e] at i2
    simp only [Bool.not_eq_true'] at i2
    exact absurd (List.contains_iff_mem.2 ht) (by rw [i2]; simp)
  · rw [e] at i1
    simp only [Bool.not_eq_true', Bool.and_eq_true] at i1
    exact absurd (List.contains_iff_mem.2 ht) (by rw [i1.1]; simp)
  · rw [e] at i1
    simp only [Bool.and_eq_true, Bool.not_eq_true', beq_eq_false_iff_ne] at i1
    exact i1.2 e'
theorem swap_looks {x y : Ins} (i1 : (match x.dst with | none => true | some d => !y.reads.contains d && !(y.dst == some d)) = true) (i2 : (match y.dst with | none => true | some d => !x.reads.contains d) = true) (i3 : x.looks y = true) (h : x.go P s fun s1 => y.go P s1 K) : y.go P s fun s2 => x.go P s2 K := by
  obtain ⟨hx, hy, hd⟩ := indep_facts i1 i2
  unfold Ins.looks at i3
  simp only [Bool.and_eq_true] at i3
  obtain ⟨v, q1, q2⟩ := ins_index i3.1.1 i3.1.2 h
  have q3 := ins_rows i3.2 q1
  have hS : (s.put x.dst v).S = s.S := by cases x.dst <;> rfl
  rw [hS] at q3
  exact later hx hy hd (RowsOk s.S) q2 q3
theorem swap_looks2 {x y : Ins} (i1 : (match x.dst with | none => true | some d => !y.reads.contains d && !(y.dst == some d)) = true) (i2 : (match y.dst with | none => true | some d => !x.reads.contains d) = true) (i3 : y.looks x = true) (h : x.go P s fun s1 => y.go P s1 K) : y.go P s fun s2 => x.go P s2 K := by
  obtain ⟨hx, hy, hd⟩ := indep_facts i1 i2
  unfold Ins.looks at i3
  simp only [Bool.and_eq_true] at i3
  have h' := ins_rows i3.2 h
  obtain ⟨v, T, c1, _, c3⟩ := ins_loc h'
  have c1' := c1.1
  have c2 : RowsOk s.S T := by
    have := c1.2
    rwa [put_S] at this
  obtain ⟨u, q1, q2⟩ := ins_index i3.1.1 i3.1.2 c1'
  rw [put_S] at q2
  have hyr : ∀ t ∈ y.reads, s.env t = ((⟨s.env, T⟩ : AS).put x.dst v).env t := fun t ht => (put_env (hy t ht)).symm
  refine q2 s.S c2.symm s.env hyr _ ?_
  obtain ⟨c4, _⟩ := c3 ((⟨s.env, s.S⟩ : AS).put y.dst u).env (fun t ht => put_env (hx t ht))
  rw [put_mk]
  refine c4 _ ?_
  have e5 : (⟨((⟨s.env, s.S⟩ : AS).put y.dst u).env, T⟩ : AS).put x.dst v = ((⟨s.env, T⟩ : AS).put x.dst v).put y.dst u := by
    have q1 : (⟨((⟨s.env, s.S⟩ : AS).put y.dst u).env, T⟩ : AS) = (⟨s.env, T⟩ : AS).put y.dst u := by rw [put_mk (S1 := T), put_env_S (S1 := T) (S2 := s.S)]
    rw [q1]
    exact (put_comm hd).symm
  rw [e5]
  exact q1
/-- Two operations that do not touch each other's things change places. -/
theorem swap {x y : Ins} (hi : x.indep y = true) (h : x.go P s fun s1 => y.go P s1 K) : y.go P s fun s2 => x.go P s2 K := by
  unfold Ins.indep at hi
  simp only [Bool.and_eq_true, Bool.or_eq_true] at hi
  obtain ⟨⟨i1, i2⟩, i3⟩ := hi
  rcases i3 with ((((i3 | i3) | i3) | i3) | i3) | i3
  rotate_left
  · exact swap_makes i3 h
  · exact swap_makes2 i3 h
  · exact swap_looks i1 i2 i3 h
  · exact swap_looks2 i1 i2 i3 h
  · exact swap_beside i3 h
  have hy : ∀ t ∈ y.reads, x.dst ≠ some t := fun t ht e => by
    rw [e] at i1
    simp only [Bool.not_eq_true', Bool.and_eq_true] at i1
    exact absurd (List.contains_iff_mem.2 ht) (by rw [i1.1]; simp)
  have hx : ∀ t ∈ x.reads, y.dst ≠ some t := fun t ht e => by
    rw [e] at i2
    simp only [Bool.not_eq_true'] at i2
    exact absurd (List.contains_iff_mem.2 ht) (by rw [i2]; simp)
  have hd : ∀ d, x.dst = some d → y.dst ≠ some d := fun d e e' => by
    rw [e] at i1
    simp only [Bool.and_eq_true, Bool.not_eq_true', beq_eq_false_iff_ne] at i1
    exact i1.2 e'
  obtain ⟨v1, S1, h1, k1, m1⟩ := ins_loc h
  rw [put_mk] at h1
  obtain ⟨v2, S2, h2, k2, m2⟩ := ins_loc h1
  dsimp only at h2 k2 m2
  -- y ahead
  obtain ⟨a1, a2⟩ := m2 s.env (fun t ht => (put_env (hy t ht)).symm)
  obtain ⟨b1, b2⟩ := m1 ((⟨s.env, S1⟩ : AS).put y.dst v2).env (fun t ht => put_env (hx t ht))
  have e0 : ∀ T : AStore, (⟨((⟨s.env, S1⟩ : AS).put y.dst v2).env, T⟩ : AS).put x.dst v1 = (⟨((⟨s.env, S1⟩ : AS).put x.dst v1).env, T⟩ : AS).put y.dst v2 := fun T => by
    have q1 : (⟨((⟨s.env, S1⟩ : AS).put y.dst v2).env, T⟩ : AS) = (⟨s.env, T⟩ : AS).put y.dst v2 := by rw [put_mk (S1 := T), put_env_S (S1 := T) (S2 := S1)]
    have q2 : (⟨((⟨s.env, S1⟩ : AS).put x.dst v1).env, T⟩ : AS) = (⟨s.env, T⟩ : AS).put x.dst v1 := by rw [put_mk (S1 := T), put_env_S (S1 := T) (S2 := S1)]
    rw [q1, q2]
    exact (put_comm hd).symm
  rcases i3 with ((((i3 | i3) | i3) | i3) | i3) | i3
  · have e1 := k1 i3.1
    have e2 := k2 i3.2
    subst e1
    subst e2
    refine a1 _ ?_
    rw [put_mk]
    exact b1 _ (by rw [e0]; exact h2)
  · -- x is pure
    obtain ⟨i3, i4⟩ := i3
    have e1 : S1 = s.S := k1 (by cases hk : x.kd <;> rw [hk] at i3 <;> first | rfl | simp [Kd.pureS] at i3)
    subst e1
    refine a1 _ ?_
    rw [put_mk, put_env_S (S1 := S2) (S2 := s.S)]
    exact b2 i3 i4 S2 _ (by rw [e0]; exact h2)
  · -- y is pure
    obtain ⟨i3, i4⟩ := i3
    have e2 : S2 = S1 := k2 (by cases hk : y.kd <;> rw [hk] at i3 <;> first | rfl | simp [Kd.pureS] at i3)
    subst e2
    refine a2 i3 i4 s.S _ ?_
    rw [put_mk, put_env_S (S1 := s.S) (S2 := S2)]
    exact b1 _ (by rw [e0]; exact h2)
  · -- x only reads, y makes a block
    obtain ⟨v, q1, q2⟩ := ins_ext i3.1 h
    have q3 := ins_fresh i3.2 q1
    have hS : (s.put x.dst v).S = s.S := by cases x.dst <;> rfl
    rw [hS] at q3
    exact later hx hy hd (SubS s.S) q2 q3
  · -- x reads a block that y leaves
    simp only [Ins.apart] at i3
    split at i3
    · rename_i a ha
      rw [Bool.and_eq_true] at i3
      obtain ⟨v, q1, q2⟩ := ins_read ha i3.1 h
      have q3 := ins_leaves i3.2 q1
      have hS : (s.put x.dst v).S = s.S := by cases x.dst <;> rfl
      rw [hS] at q3
      exact later hx hy hd (fun S' => S' a = s.S a) q2 q3
    · cases i3
  · -- y reads a block that x leaves
    simp only [Ins.apart] at i3
    split at i3
    · rename_i a ha
      rw [Bool.and_eq_true] at i3
      have h' := ins_leaves i3.2 h
      obtain ⟨v, T, c1, _, c3⟩ := ins_loc h'
      have c1' := c1.1
      have c2 : T a = s.S a := by
        have := c1.2
        rwa [put_S] at this
      obtain ⟨u, q1, q2⟩ := ins_read ha i3.1 c1'
      rw [put_S] at q2
      have hyr : ∀ t ∈ y.reads, s.env t = ((⟨s.env, T⟩ : AS).put x.dst v).env t := fun t ht => (put_env (hy t ht)).symm
      refine q2 s.S c2.symm s.env hyr _ ?_
      obtain ⟨c4, _⟩ := c3 ((⟨s.env, s.S⟩ : AS).put y.dst u).env (fun t ht => put_env (hx t ht))
      rw [put_mk]
      refine c4 _ ?_
      have e5 : (⟨((⟨s.env, s.S⟩ : AS).put y.dst u).env, T⟩ : AS).put x.dst v = ((⟨s.env, T⟩ : AS).put x.dst v).put y.dst u := by
        have q1 : (⟨((⟨s.env, s.S⟩ : AS).put y.dst u).env, T⟩ : AS) = (⟨s.env, T⟩ : AS).put y.dst u := by rw [put_mk (S1 := T), put_env_S (S1 := T) (S2 := s.S)]
        rw [q1]
        exact (put_comm hd).symm
      rw [e5]
      exact q1
    · cases i3
theorem Ins.go_mono {i : Ins} {K' : AS → Prop} (h : i.go P s K) (hk : ∀ s, K s → K' s) : i.go P s K' := by
  obtain ⟨v, S1, h1, h2, h3⟩ := ins_loc h
  exact (h3 s.env (fun _ _ => rfl)).1 K' (hk _ h1)
/-- The first of a row that nothing ahead of it touches comes first. -/
theorem run_front {pre : List Ins} {y : Ins} {post : List Ins} (hi : ∀ x ∈ pre, x.indep y = true) : ∀ {s : AS}, Run P (pre ++ y :: post) s K → y.go P s fun s' => Run P (pre ++ post) s' K := by
  induction pre with
  | nil => intro s h; exact h
  | cons x pre ih =>
    intro s h
    rw [List.cons_append, run_cons] at h
    have h2 : x.go P s fun s' => y.go P s' fun s'' => Run P (pre ++ post) s'' K := Ins.go_mono h fun s' hs => ih (fun z hz => hi z (by simp [hz])) hs
    have h3 := swap (hi x (by simp)) h2
    exact h3
end
end Go.Proofs.YtbiadmlfejnbcaaGreatDoor

namespace Go.Proofs.YtbiadmlfejnbcaaGreatDoor
open Go Go.RowKit
set_option linter.unusedVariables false
set_option maxHeartbeats 400000

def sizeG (P : Program) (t : TypeId) : Option (Bool × Nat) := match P.underlying t, P.info? t with
  | some d, some i => some (isAggD d, if isAggD d then i.size else 1)
  | _, _ => none
def trCall (P : Program) (n : Nat) (mu : List Nat) (dst : Option Nat) (c : Call) : Option Kd := match c.callee with
  | .builtin .len => match c.args.toList, c.argTypes.toList with
    | [x], [t] => match trOpd n x, P.underlying t with
      | some x', some .string => some (.len true x')
      | some x', some (.slice _) => some (.len false x')
      | _, _ => none
    | _, _ => none
  | .builtin .append => match c.args.toList, c.argTypes.toList with
    | [x, y], [t, t'] => match trOpd n x, trOpd n y, P.underlying t with
      | some x', some y', some (.slice e) => match P.info? e with
        | some i => match i.zero with
          | some z => if t = t' ∧ z.cells.size = i.size ∧ 0 < i.size then some (.append (match dst with | some d => mu.contains d | none => false) e i.size i.bytes x' y') else none
          | none => none
        | none => none
      | _, _, _ => none
    | _, _ => none
  | .builtin .min => match c.args.toList with
    | [x, y] => match trOpd n x, trOpd n y with
      | some x', some y' => some (.mm false x' y')
      | _, _ => none
    | _ => none
  | .builtin .max => match c.args.toList with
    | [x, y] => match trOpd n x, trOpd n y with
      | some x', some y' => some (.mm true x' y')
      | _, _ => none
    | _ => none
  | .value (.func f) => if plainF P f then (trOpds n c.args.toList).map (fun xs => match dst with
    | some d => if mu.contains d then .callS f xs else .call f xs
    | none => .callS f xs) else none
  | .value (.tmp t) => match trOpd n (.tmp t), trOpds n c.args.toList with
    | some f', some xs => some (.callV f' xs)
    | _, _ => none
  | _ => none
def svOne (v : Value) : Option SV := match ofCell v with
  | some (.st c) => some c
  | some (.full xs) => some (.list xs)
  | _ => none
def svAll : List Value → Option (List SV)
  | [] => some []
  | v :: vs => match svOne v, svAll vs with
    | some c, some cs => some (c :: cs)
    | _, _ => none
def trKd0 (P : Program) (n : Nat) (mu : List Nat) (dst : Option Nat) : Op → Option Kd
  | .move x => (trOpd n x).map .mov
  | .assign x => (trOpd n x).map .mov
  | .pick c x y => match trOpd n c, trOpd n x, trOpd n y with
    | some c', some x', some y' => some (.pick c' x' y')
    | _, _, _ => none
  | .alloc e => match P.info? e with
    | some i => match i.zero with
      | some z => (ofCells z.cells.toList).map (.alloc e)
      | none => none
    | none => none
  | .box e x => (trOpd n x).map (.box e)
  | .build t ps => match P.info? t, P.underlying t with
    | some it, some (.struct fs) => match it.zero, fs.toList.mapM (fun f => (P.info? f.type).map fun i => (f.offset, i.size)) with
      | some z, some places => match trParts n places ps.toList, ofCells z.cells.toList with
        | some ps', some cs => some (.build cs ps')
        | _, _ => none
      | _, _ => none
    | _, _ => none
  | .buildSlice t len ps => match P.underlying t with
    | some (.slice e) => match P.info? e with
      | some ie => match ie.zero, trEls n 0 ps.toList with
        | some z, some xs => if len * ie.size ≤ 2 ^ 24 ∧ 0 < ie.size ∧ ps.size = len then some (.buildSlice (match dst with | some d => mu.contains d | none => false) e ie.size xs) else none
        | _, _ => none
      | none => none
    | _ => none
  | .load t x => match sizeG P t, trOpd n x with
    | some (g, k), some x' => some (.load g k x')
    | _, _ => none
  | .store t x v => match P.info? t, trOpd n x, trOpd n v with
    | some i, some x', some v' => some (.store i.size x' v')
    | _, _, _ => none
  | .fieldAddr t x f => match P.underlying t, trOpd n x with
    | some (.struct fs), some x' => match fs[f]? with
      | some fd => match P.info? fd.type with
        | some i => if i.size ≠ 0 then some (.fieldAddr fd.offset x') else none
        | none => none
      | none => none
    | _, _ => none
  | .field t x f => match P.underlying t, trOpd n x with
    | some (.struct fs), some x' => match fs[f]? with
      | some fd => match sizeG P fd.type with
        | some (g, k) => some (.field g fd.offset k x')
        | none => none
      | none => none
    | _, _ => none
  | .indexAddr t x y => match P.underlying t, trOpd n x, trOpd n y with
    | some (.slice e), some x', some y' => match P.info? e with
      | some i => some (.indexAddr i.size x' y')
      | none => none
    | some (.array len e), some x', some y' => match P.info? e with
      | some i => some (.indexArr len i.size x' y')
      | none => none
    | _, _, _ => none
  | .index t x y => match P.underlying t, trOpd n x, trOpd n y with
    | some .string, some x', some y' => some (.indexStr x' y')
    | _, _, _ => none
  | .binOp op t x y _ => match trOpd n x, trOpd n y with
    | some x', some y' => match P.underlying t, op, y with
      | some .bool, .eql, _ => some (.eqB false x' y')
      | some .bool, .neq, _ => some (.eqB true x' y')
      | some (.slice _), .eql, .const (.slice none 0 0) => some (.eqN false x')
      | some (.slice _), .neq, .const (.slice none 0 0) => some (.eqN true x')
      | some (.interface _), .eql, .const .nilIface => some (.eqE false x')
      | some (.interface _), .neq, .const .nilIface => some (.eqE true x')
      | _, _, _ => some (.bin op x' y')
    | _, _ => none
  | .unOp op _ x => (trOpd n x).map (.un op)
  | .convert src dst x => match P.underlying src, P.underlying dst, trOpd n x with
    | some _, some (.int k), some x' => some (.conv k x')
    | some (.slice e), some .string, some x' => match P.underlying e with
      | some (.int .u8) => some (.strOf x')
      | _ => none
    | _, _, _ => none
  | .slice t x lo hi none => match P.underlying t, trOpd n x, trOptOpd n lo, trOptOpd n hi with
    | some .string, some x', some lo', some hi' => some (.sliceS x' lo' hi')
    | some (.slice e), some x', some lo', some hi' => match P.info? e with
      | some i => some (.sliceL i.size x' lo' hi')
      | none => none
    | _, _, _, _ => none
  | .extract x i => (trOpd n x).map (.extract i)
  | .nilCheck x => (trOpd n x).map .nilCheck
  | .call c => trCall P n mu dst c
  | .makeSlice t x y => match P.underlying t, trOpd n x, trOpd n y with
    | some (.slice e), some x', some y' => match P.info? e with
      | some i => match i.zero with
        | some z => match svAll z.cells.toList with
          | some zs => if z.cells.size = i.size ∧ 0 < i.size then some (.makeSlice e i.size i.bytes zs x' y') else none
          | none => none
        | none => none
      | none => none
    | _, _, _ => none
  | .makeFunc (.func g) first caps => if first.size = 0 then (trOpds n caps.toList).map (.makeFunc g) else none
  | _ => none
def trGuard (n : Nat) (ops : List Oper) : Option (Nat × Bool) → Option (Option (Nat × Bool))
  | none => some none
  | some (j, want) => match ops[j]? with
    | some o => match o.dst with
      | some t => if t < n then some (some (t, want)) else none
      | none => none
    | none => none
/-- What is not covered is taken for what never comes to be: it can't be walked. -/
def trKd (P : Program) (n : Nat) (mu : List Nat) (dst : Option Nat) (op : Op) : Option Kd := match trKd0 P n mu dst op with
  | some k => some k
  | none => some .never
def trIns (P : Program) (n : Nat) (mu : List Nat) (ops : List Oper) (o : Oper) : Option Ins := match trGuard n ops o.guard, trKd P n mu o.dst o.op with
  | some g, some k => some ⟨o.dst, g, k, .no⟩
  | _, _ => none
def trAll (P : Program) (n : Nat) (mu : List Nat) (ops : List Oper) : List Oper → Option (List Ins)
  | [] => some []
  | o :: os => match trIns P n mu ops o, trAll P n mu ops os with
    | some i, some is => some (i :: is)
    | _, _ => none

section
variable {P : Program} {C : Ctx} {o : Oper} {a : Act} {w : World} {σ : Sto} {ι : AHnd} {s : AS} {d : Nat}
/-- What holds of the frame and the world behind an operation. -/
def Holds (C : Ctx) (s : AS) (a : Act) (w : World) : Prop := ∃ σ ι, Refs C σ ι s a w

theorem sizeG_spec {t : TypeId} {g : Bool} {k : Nat} (h : sizeG P t = some (g, k)) : ∃ dd i, P.underlying t = some dd ∧ P.info? t = some i ∧ g = isAggD dd ∧ k = if g then i.size else 1 := by
  unfold sizeG at h
  split at h
  · rename_i dd i e1 e2
    simp only [Option.some.injEq, Prod.mk.injEq] at h
    obtain ⟨rfl, rfl⟩ := h
    exact ⟨dd, i, e1, e2, rfl, rfl⟩
  · cases h
/-- A call of a function that leaves the call's own blocks alone. -/
theorem snd_call {f : FuncId} {xs : Array Operand} {ts : Array TypeId} {xs' : List Opd} {K : AV → AS → Prop} {next : Act → World → Prop} {Q : Exit → Act → World → Prop} (ho : o.op = .call { callee := .value (.func f), args := xs, argTypes := ts }) (hf : plainF P f = true) (hx : trOpds C.n xs.toList = some xs')
    (R : Refs C σ ι s a w) (h : Kd.go P d s K (.call f xs')) (hn : ∀ av s' a' w', K av s' → Holds C (s'.put o.dst av) a' w' → next a' w') : o.wp P a w next Q := by
  simp only [Kd.go] at h
  split at h
  · rename_i vs e1
    obtain ⟨r, hc, hK⟩ := h
    have rxs := R.evs hx
    have hrun : (execOp a.eval o).run P w = .ok (.enter f (xs.map a.eval)) w := by
      unfold plainF at hf
      split at hf
      · rename_i fn hfn
        simp only [Bool.and_eq_true, Bool.not_eq_true', beq_eq_false_iff_ne, Option.isSome_iff_exists] at hf
        obtain ⟨hname, c, hbody⟩ := hf
        simp [execOp, ho, resolve, Deferred.ofValue, Act.eval, invoke, callFunc, hfn, hname, hbody]
      · cases hf
    have hvs : All2 (VRep σ noS noH) (xs.map a.eval).toList vs := by
      have := rxs
      rw [← Array.toList_map] at this
      have hlen := this.len
      obtain ⟨q1, q2⟩ := Refs.outVs R (cs := s.evs xs') (cs' := vs) (c := fun j => ((xs.map a.eval).toList[j]?).getD undef) (fun j b hb => by
        obtain ⟨v, v1, v2⟩ := this.get hb
        rw [v1]
        exact v2) e1
      refine All2.of_get (by omega) fun j v b hv hb => ?_
      have := q2 j b hb
      rw [hv] at this
      exact this
    unfold Oper.wp
    rw [hrun, Oper.upon_enter]
    have hcall := hc σ w _ (C.glob.mono R.ext) R.fit hvs
    rw [Array.toArray_toList] at hcall
    refine hcall.mono fun e w' he => ?_
    obtain ⟨v, σ', rfl, hv, hf', hext, hb⟩ := he
    exact hn _ _ _ _ hK ⟨σ', ι, (R.more hext hf' hb).put (hv.mono (fun _ _ h => h) (upd_noS _ _))⟩
  · exact h.elim

theorem snd_mm {mx : Bool} {x y : Operand} {ts : Array TypeId} {x' y' : Opd} {K : AV → AS → Prop} (ho : o.op = .call { callee := .builtin (if mx then .max else .min), args := #[x, y], argTypes := ts }) (hx : trOpd C.n x = some x') (hy : trOpd C.n y = some y') (R : Refs C σ ι s a w) (h : Kd.go P d s K (.mm mx x' y')) : Good P C o a w K := by
  have rx := R.ev hx
  have ry := R.ev hy
  simp only [Kd.go] at h
  split at h
  · rename_i k m k' n e1 e2
    rw [e1] at rx
    rw [e2] at ry
    obtain ⟨hex, h1⟩ := vrep_int rx
    obtain ⟨hey, h2⟩ := vrep_int ry
    obtain ⟨rfl, h⟩ := h
    cases mx with
    | true =>
      simp only [if_true] at h ho
      by_cases hlt : m < n
      · rw [if_pos hlt] at h
        exact good_val R (.int k n) _ (by simp [execOp, ho, resolve, invoke, builtin, Builtin.max_, Builtin.max2, hex, hey, hlt]) h (.one (.st (.int h2)))
      · rw [if_neg hlt] at h
        exact good_val R (.int k m) _ (by simp [execOp, ho, resolve, invoke, builtin, Builtin.max_, Builtin.max2, hex, hey, hlt]) h (.one (.st (.int h1)))
    | false =>
      simp only [Bool.false_eq_true, if_false] at h ho
      by_cases hlt : n < m
      · rw [if_pos hlt] at h
        exact good_val R (.int k n) _ (by simp [execOp, ho, resolve, invoke, builtin, Builtin.min_, Builtin.min2, hex, hey, hlt]) h (.one (.st (.int h2)))
      · rw [if_neg hlt] at h
        exact good_val R (.int k m) _ (by simp [execOp, ho, resolve, invoke, builtin, Builtin.min_, Builtin.min2, hex, hey, hlt]) h (.one (.st (.int h1)))
  · exact h.elim
theorem svOne_rep {v : Value} {c : SV} (h : svOne v = some c) : SRep σ v c := by
  unfold svOne at h
  split at h
  · rename_i e
    cases h
    have := ofCell_rep (σ := σ) (S := noS) (ι := noH) e
    exact arep_st this
  · rename_i e
    cases h
    have := ofCell_rep (σ := σ) (S := noS) (ι := noH) e
    exact arep_full this
  · cases h
theorem svAll_rep : ∀ {vs : List Value} {cs : List SV}, svAll vs = some cs → All2 (SRep σ) vs cs
  | [], cs, h => by simp only [svAll, Option.some.injEq] at h; subst h; exact .nil
  | v :: vs, cs, h => by
    simp only [svAll] at h
    split at h
    · rename_i k1 k2
      cases h
      exact .cons (svOne_rep k1) (svAll_rep k2)
    · cases h
theorem snd_makeSlice {t e : TypeId} {i : TypeInfo} {z : Value} {zs : List SV} {x y : Operand} {x' y' : Opd} {K : AV → AS → Prop} (ho : o.op = .makeSlice t x y) (hx : trOpd C.n x = some x') (hy : trOpd C.n y = some y') (ht : P.underlying t = some (.slice e)) (hi : P.info? e = some i) (hz : i.zero = some z) (hzs : svAll z.cells.toList = some zs) (hsz : z.cells.size = i.size) (hpos : 0 < i.size)
    (R : Refs C σ ι s a w) (h : Kd.go P d s K (.makeSlice e i.size i.bytes zs x' y')) : Good P C o a w K := by
  have rx := R.ev hx
  have ry := R.ev hy
  simp only [Kd.go] at h
  split at h
  · rename_i k m k' n e1 e2
    rw [e1] at rx
    rw [e2] at ry
    obtain ⟨hex, -⟩ := vrep_int rx
    obtain ⟨hey, -⟩ := vrep_int ry
    obtain ⟨rfl, h0, h63, hby, hid, hK⟩ := h
    obtain ⟨q, rfl⟩ : ∃ q : Nat, m = q := ⟨m.toNat, by omega⟩
    simp only [Int.toNat_natCast] at hK
    have hr := run_make (P := P) w t e i z ht hi hz k k' (q : Int) (q : Int) (by omega) (Int.le_refl _) (by rw [Int.mul_comm]; omega) h63
    simp only [Int.toNat_natCast] at hr
    have rz := svAll_rep (σ := σ) hzs
    have hzl := rz.len
    have hmax : q ≤ maxLen := by simp only [maxLen]; omega
    obtain ⟨hu, R'⟩ := R.fresh (w' := w.alloc (.cells (madeCells z.cells (q * i.size)) e)) hid (.mrow e i.size (List.replicate q zs)) ⟨some ⟨w.heap.size, 0, none⟩, q, some w.heap.size⟩ (Ext.refl _ _) (R.fit.alloc _) (More.alloc _ _) (by simp)
      (fun S' ι' hu => .mrow rfl rfl (heap_alloc_new w _) (by simp) hmax (by simp [madeCells]) (fun x hx => by rw [(List.mem_replicate.1 hx).2]; simp at hzl; omega) (fun kk x j y hx hy => by
        obtain ⟨hk1, hk2⟩ := List.getElem?_eq_some_iff.1 hx
        simp only [List.length_replicate] at hk1
        rw [List.getElem_replicate] at hk2
        subst hk2
        have hj : j < i.size := by
          have := (List.getElem?_eq_some_iff.1 hy).1
          simp at hzl
          omega
        obtain ⟨v, v1, v2⟩ := rz.get hy
        refine ⟨v, ?_, v2⟩
        have hlt : kk * i.size + j < q * i.size := by
          have : (kk + 1) * i.size ≤ q * i.size := Nat.mul_le_mul_right _ hk1
          rw [Nat.add_mul] at this
          omega
        have hjz : j < z.cells.size := by omega
        have em : (kk * i.size + j) % z.cells.size = j := by rw [hsz, Nat.mul_comm, Nat.mul_add_mod, Nat.mod_eq_of_lt hj]
        have hv : z.cells[j]? = some v := by simpa using v1
        unfold madeCells
        rw [Array.getElem?_map, Array.getElem?_range, if_pos hlt, Option.map_some, em]
        simp only [Array.getElem!_eq_getD, Array.getD_eq_getD_getElem?, hv, Option.getD_some]) (fun p hp => R.fit.no (by omega)))
    exact ⟨_, _, _, σ, _, _, .inl (by simp only [execOp, ho, hex, hey, Sem.run_bind, hr, Result.andThen_ok]; rfl), hK, R', .one (.row (b := .mrow e i.size (List.replicate q zs)) (by simp [AS.set, updE_same]) (by simp [ABlk.len]) rfl fun _ => by simp [updE_same])⟩
  · exact h.elim
theorem caps_rep (R : Refs C σ ι s a w) : ∀ {xs : List Operand} {xs' : List Opd} {cs : List AC}, trOpds C.n xs = some xs' → s.caps xs' = some cs → All2 (ARep σ s.S ι) (xs.map a.eval) cs
  | [], xs', cs, h1, h2 => by
    simp only [trOpds, Option.some.injEq] at h1
    subst h1
    simp only [AS.caps, Option.some.injEq] at h2
    subst h2
    exact .nil
  | x :: xs, xs', cs, h1, h2 => by
    simp only [trOpds] at h1
    split at h1
    · rename_i k1 k2
      cases h1
      simp only [AS.caps] at h2
      split at h2
      · rename_i e1 e2
        cases h2
        have rx := R.ev k1
        rw [e1] at rx
        exact .cons (vrep_one rx) (caps_rep R k2 e2)
      · cases h2
    · cases h1
theorem snd_makeFunc {g : FuncId} {first caps : Array Operand} {xs : List Opd} {K : AV → AS → Prop} (ho : o.op = .makeFunc (.func g) first caps) (hf : first.size = 0) (hx : trOpds C.n caps.toList = some xs) (R : Refs C σ ι s a w) (h : Kd.go P d s K (.makeFunc g xs)) : Good P C o a w K := by
  simp only [Kd.go] at h
  split at h
  · rename_i cs e1
    have rc := caps_rep R hx e1
    have e0 : first = #[] := Array.eq_empty_of_size_eq_zero hf
    subst e0
    have hl := rc.len
    refine good_val R (.func (.func g) #[] (caps.map a.eval)) _ (by simp [execOp, ho, Instr.makeFunc]) h (.one (.fn (fun j => ((caps.toList.map a.eval)[j]?).getD undef) (by simpa using hl) (fun j b hb => ?_) (fun j b hb => ?_)))
    · obtain ⟨v, v1, v2⟩ := rc.get hb
      rw [v1]
      simpa using v1
    · obtain ⟨v, v1, v2⟩ := rc.get hb
      rw [v1]
      exact v2
  · exact h.elim
/-- A call that may turn the call's own blocks. -/
theorem callS_core {f : FuncId} {vs : List Value} {avs : List AV} {r : AV} {S' : AStore} {next : Act → World → Prop} {Q : Exit → Act → World → Prop} (R : Refs C σ ι s a w) (hrun : (execOp a.eval o).run P w = .ok (.enter f vs.toArray) w) (hvs : All2 (VRep σ s.S ι) vs avs)
    (h : ACallsS P f (AV.rens up1 avs) (upS s.S) r S') (hn : ∀ a' w', Holds C ((⟨s.env, dnS S'⟩ : AS).put o.dst (r.ren dn1)) a' w' → next a' w') : o.wp P a w next Q := by
  have hup : ∀ i, dn1 (up1 i) = i := dn_up
  have hS : ∀ i b, s.S i = some b → upS s.S (up1 i) = some (b.ren up1) := fun i b hb => upS_some hb
  obtain ⟨ι1, hι1⟩ : ∃ ι1 : AHnd, ∀ i, ι1 i = ι (dn1 i) := ⟨fun i => ι (dn1 i), fun _ => rfl⟩
  have hι : ∀ i b, s.S i = some b → ι1 (up1 i) = ι i := fun i b _ => by rw [hι1, hup]
  have hown : Owned σ (upS s.S) ι1 w := by
    refine ⟨fun id b hb => ?_, fun id id' b b' g h1 h2 g1 g2 => ?_⟩
    · obtain ⟨hle, b', h1, rfl⟩ := upS_inv hb
      have := BRep.ren (S2 := upS s.S) (ι2 := ι1) (ρ := up1) hS hι (R.blk _ _ h1)
      rw [hι1]
      exact this
    · obtain ⟨l1, c1, k1, _⟩ := upS_inv h1
      obtain ⟨l2, c2, k2, _⟩ := upS_inv h2
      rw [hι1] at g1 g2
      have := R.inj _ _ _ _ g k1 k2 g1 g2
      rw [← up_dn l1, ← up_dn l2, this]
  have hargs : All2 (VRep σ (upS s.S) ι1) vs (AV.rens up1 avs) := by
    rw [AV.rens_eq]
    exact (hvs.mono fun _ _ x => VRep.ren (S2 := upS s.S) (ι2 := ι1) (ρ := up1) hS hι x).map_right
  unfold Oper.wp
  rw [hrun, Oper.upon_enter]
  refine (h (clean_upS _) σ w vs _ (C.glob.mono R.ext) R.fit hown hargs).mono fun e w' he => ?_
  obtain ⟨v, σ', ι', rfl, hclean, hupd, hown', hv, hf', hkeep, hold, hos, hsz, hsame, hbase⟩ := he
  have hSd : ∀ i b, S' i = some b → dnS S' (dn1 i) = some (b.ren dn1) := fun i b hb => dnS_some (hclean i b hb).1 hb
  obtain ⟨ι2, hι2⟩ : ∃ ι2 : AHnd, ∀ i, ι2 i = ι' (up1 i) := ⟨fun i => ι' (up1 i), fun _ => rfl⟩
  have hιd : ∀ i b, S' i = some b → ι2 (dn1 i) = ι' i := fun i b hb => by
    rw [hι2, up_dn (hclean i b hb).1]
  have hu : Upd s.S ι (dnS S') ι2 := fun id b hb => by
    obtain ⟨b', h1, h2, h3⟩ := hupd _ _ (hS id b hb)
    have h4 := hSd _ _ h1
    rw [hup] at h4
    refine ⟨_, h4, by rw [ren_len] at h2 ⊢; exact h2, fun hl => ?_⟩
    rw [ren_len] at hl
    obtain ⟨q1, q2⟩ := h3 (by rw [ren_len]; exact hl)
    refine ⟨by rw [ren_wid] at q1 ⊢; exact q1, ?_⟩
    rw [hι2, q2, hι1, hup]
  have hnot : ∀ g, g < C.N → ¬ C.G g → notOf (upS s.S) ι1 g := fun g h1 h2 id b hb hg => by
    obtain ⟨_, b', k1, _⟩ := upS_inv hb
    rw [hι1] at hg
    rcases R.base _ _ g k1 hg with h | h
    · omega
    · exact h2 h
  have R' : Refs C σ' ι2 ⟨s.env, dnS S'⟩ a w' := by
    refine ⟨R.size, fun i hi => (R.env i hi).mono hkeep hu, R.nod, hf', fun id b hb => ?_, fun id id' b b' g h1 h2 g1 g2 => ?_, fun id b g hb hg => ?_, fun p x hx => hkeep _ _ (R.ext p x hx), fun p h1 h2 => ?_, ⟨hos.1.trans R.os.1, hos.2.1.trans R.os.2.1, hos.2.2.trans R.os.2.2⟩, ⟨Nat.le_trans R.grown.1 hsz, Nat.le_trans R.grown.2 hsz⟩, fun g h1 h2 => ?_, R.upd.trans hu⟩
    · obtain ⟨b', h1, rfl⟩ := dnS_inv hb
      have := BRep.ren (S2 := dnS S') (ι2 := ι2) (ρ := dn1) hSd hιd (hown'.1 _ _ h1)
      rw [hι2]
      exact this
    · obtain ⟨c1, k1, _⟩ := dnS_inv h1
      obtain ⟨c2, k2, _⟩ := dnS_inv h2
      rw [hι2] at g1 g2
      have := congrArg dn1 (hown'.2 _ _ _ _ g k1 k2 g1 g2)
      rw [hup, hup] at this
      exact this
    · obtain ⟨b', h1, _⟩ := dnS_inv hb
      rw [hι2] at hg
      rcases hbase _ _ g h1 hg with h2 | h2
      · exact .inl (by have := R.grown.1; omega)
      · by_cases hN : g < C.N
        · by_cases hG : C.G g
          · exact .inr hG
          · exact absurd (hnot g hN hG) h2
        · exact .inl (by omega)
    · exact (hold p (by have := R.grown.1; omega) (hnot _ h1 h2)).trans (R.old p h1 h2)
    · exact (hsame g (by have := R.grown.1; omega) (hnot g h1 h2)).trans (R.same g h1 h2)
  exact hn _ _ ⟨σ', _, R'.put (VRep.ren (S2 := dnS S') (ι2 := ι2) (ρ := dn1) hSd hιd hv)⟩
theorem run_enter {f : FuncId} {args : Array Value} (hf : plainF P f = true) : (callFunc f args).run P w = .ok (.enter f args) w := by
  unfold plainF at hf
  split at hf
  · rename_i fn hfn
    simp only [Bool.and_eq_true, Bool.not_eq_true', beq_eq_false_iff_ne, Option.isSome_iff_exists] at hf
    obtain ⟨hname, c, hbody⟩ := hf
    simp [callFunc, hfn, hname, hbody]
  · cases hf
theorem snd_callS {f : FuncId} {xs : Array Operand} {ts : Array TypeId} {xs' : List Opd} {K : AV → AS → Prop} {next : Act → World → Prop} {Q : Exit → Act → World → Prop} (ho : o.op = .call { callee := .value (.func f), args := xs, argTypes := ts }) (hf : plainF P f = true) (hx : trOpds C.n xs.toList = some xs')
    (R : Refs C σ ι s a w) (h : Kd.go P d s K (.callS f xs')) (hn : ∀ av s' a' w', K av s' → Holds C (s'.put o.dst av) a' w' → next a' w') : o.wp P a w next Q := by
  simp only [Kd.go] at h
  obtain ⟨r, S', hc, hK⟩ := h
  refine callS_core (vs := xs.toList.map a.eval) R ?_ (R.evs hx) hc fun a' w' hH => hn _ _ _ _ hK hH
  have := run_enter (P := P) (w := w) (args := xs.map a.eval) hf
  have e : (xs.toList.map a.eval).toArray = xs.map a.eval := by rw [← Array.toList_map, Array.toArray_toList]
  rw [e]
  simp [execOp, ho, resolve, Deferred.ofValue, Act.eval, invoke, this]
theorem snd_callV {t : Nat} {xs : Array Operand} {ts : Array TypeId} {f' : Opd} {xs' : List Opd} {K : AV → AS → Prop} {next : Act → World → Prop} {Q : Exit → Act → World → Prop} (ho : o.op = .call { callee := .value (.tmp t), args := xs, argTypes := ts }) (hf : trOpd C.n (.tmp t) = some f') (hx : trOpds C.n xs.toList = some xs')
    (R : Refs C σ ι s a w) (h : Kd.go P d s K (.callV f' xs')) (hn : ∀ av s' a' w', K av s' → Holds C (s'.put o.dst av) a' w' → next a' w') : o.wp P a w next Q := by
  have rf := R.ev hf
  simp only [Kd.go] at h
  split at h
  · rename_i g caps e1
    rw [e1] at rf
    obtain ⟨hp, r, S', hc, hK⟩ := h
    replace rf := vrep_one rf
    generalize hev : a.eval (.tmp t) = fv at rf
    cases rf with
    | @fn _ vs _ c h1 h2 h3 =>
      have hcaps : All2 (VRep σ s.S ι) vs.toList (caps.map .one) := (All2.of_get (R := fun v c => VRep σ s.S ι v (.one c)) (by simpa using h1) fun j v b hv hb => by
        have e := h2 j b hb
        have e2 : vs.toList[j]? = some (c j) := by simpa using e
        rw [hv] at e2
        cases e2
        exact .one (h3 j b hb)).map_right
      refine callS_core (vs := xs.toList.map a.eval ++ vs.toList) R ?_ ((R.evs hx).append hcaps) hc fun a' w' hH => hn _ _ _ _ hK hH
      have := run_enter (P := P) (w := w) (args := xs.map a.eval ++ vs) hp
      have hev' : a.tmps.getD t undef = .func (.func g) #[] vs := hev
      simp only [execOp, ho, resolve, hev, Deferred.ofValue, invoke, Sem.run_bind, Sem.run_pure, Result.andThen_ok]
      rw [show (#[] ++ Array.map a.eval xs ++ vs) = xs.map a.eval ++ vs by simp, this]
      congr 1
      simp
  · exact h.elim
theorem kd_sound0 {mu : List Nat} {k : Kd} (htr : trKd0 P C.n mu o.dst o.op = some k) {K : AV → AS → Prop} {next : Act → World → Prop} {Q : Exit → Act → World → Prop} (R : Refs C σ ι s a w) (h : Kd.go P d s K k) (hn : ∀ av s' a' w', K av s' → Holds C (s'.put o.dst av) a' w' → next a' w') : o.wp P a w next Q := by
  have fin : Good P C o a w K → o.wp P a w next Q := fun hg => hg.wp fun av s' σ' ι' a' w' hk R' => hn _ _ _ _ hk ⟨σ', ι', R'⟩
  cases ho : o.op with
  | move x =>
    rw [ho] at htr
    simp only [trKd0, Option.map_eq_some_iff] at htr
    obtain ⟨x', hx, rfl⟩ := htr
    exact fin (snd_mov (.inl ho) hx R h)
  | assign x =>
    rw [ho] at htr
    simp only [trKd0, Option.map_eq_some_iff] at htr
    obtain ⟨x', hx, rfl⟩ := htr
    exact fin (snd_mov (.inr ho) hx R h)
  | pick c x y =>
    rw [ho] at htr
    simp only [trKd0] at htr
    split at htr
    · cases htr
      rename_i e1 e2 e3
      exact fin (snd_pick ho e1 e2 e3 R h)
    · cases htr
  | alloc e =>
    rw [ho] at htr
    simp only [trKd0] at htr
    split at htr
    · rename_i i e1
      split at htr
      · rename_i z e2
        rw [Option.map_eq_some_iff] at htr
        obtain ⟨cs, hcs, rfl⟩ := htr
        exact fin (snd_alloc ho e1 e2 hcs R h)
      · cases htr
    · cases htr
  | box e x =>
    rw [ho] at htr
    simp only [trKd0, Option.map_eq_some_iff] at htr
    obtain ⟨x', hx, rfl⟩ := htr
    exact fin (snd_box ho hx R h)
  | build t ps =>
    rw [ho] at htr
    simp only [trKd0] at htr
    split at htr
    · rename_i it fs e1 e2
      split at htr
      · rename_i z places e3 e4
        split at htr
        · rename_i ps' cs e5 e6
          cases htr
          exact fin (snd_build ho e1 e3 e2 e4 e5 e6 R h)
        · cases htr
      · cases htr
    · cases htr
  | buildSlice t len ps =>
    rw [ho] at htr
    simp only [trKd0] at htr
    split at htr
    · rename_i e e1
      split at htr
      · rename_i ie e2
        split at htr
        · rename_i z xs e3 e4
          split at htr
          · rename_i hc
            cases htr
            exact fin (snd_buildSlice ho e1 e2 e3 hc.1 hc.2.1 hc.2.2 e4 R h)
          · cases htr
        · cases htr
      · cases htr
    · cases htr
  | load t x =>
    rw [ho] at htr
    simp only [trKd0] at htr
    split at htr
    · rename_i g kk x' e1 e2
      cases htr
      obtain ⟨dd, i, q1, q2, q3, q4⟩ := sizeG_spec e1
      exact fin (snd_load ho e2 q1 q2 g q3 kk q4 R h)
    · cases htr
  | store t x v =>
    rw [ho] at htr
    simp only [trKd0] at htr
    split at htr
    · rename_i e1 e2 e3
      cases htr
      exact fin (snd_store ho e2 e3 e1 R h)
    · cases htr
  | fieldAddr t x f =>
    rw [ho] at htr
    simp only [trKd0] at htr
    split at htr
    · rename_i fs x' e1 e2
      split at htr
      · rename_i fd e3
        split at htr
        · rename_i i e4
          split at htr
          · rename_i hz
            cases htr
            exact fin (snd_fieldAddr ho e2 e1 e3 e4 hz R h)
          · cases htr
        · cases htr
      · cases htr
    · cases htr
  | field t x f =>
    rw [ho] at htr
    simp only [trKd0] at htr
    split at htr
    · rename_i fs x' e1 e2
      split at htr
      · rename_i fd e3
        split at htr
        · rename_i g kk e4
          cases htr
          obtain ⟨dd, i, q1, q2, q3, q4⟩ := sizeG_spec e4
          exact fin (snd_field ho e2 e1 e3 q1 q2 g q3 kk q4 R h)
        · cases htr
      · cases htr
    · cases htr
  | indexAddr t x y =>
    rw [ho] at htr
    simp only [trKd0] at htr
    split at htr
    · rename_i e x' y' e1 e2 e3
      split at htr
      · rename_i i e4
        cases htr
        exact fin (snd_indexAddr ho e2 e3 e1 e4 R h)
      · cases htr
    · rename_i len e x' y' e1 e2 e3
      split at htr
      · rename_i i e4
        cases htr
        exact fin (snd_indexArr ho e2 e3 e1 e4 R h)
      · cases htr
    · cases htr
  | index t x y =>
    rw [ho] at htr
    simp only [trKd0] at htr
    split at htr
    · rename_i e1 e2 e3
      cases htr
      exact fin (snd_indexStr ho e2 e3 e1 R h)
    · cases htr
  | binOp op t x y t' =>
    rw [ho] at htr
    simp only [trKd0] at htr
    split at htr
    · rename_i x' y' e1 e2
      split at htr
      · rename_i e3
        cases htr
        exact fin (snd_eqB (neg := false) ho e1 e2 e3 R h)
      · rename_i e3
        cases htr
        exact fin (snd_eqB (neg := true) ho e1 e2 e3 R h)
      · rename_i e3
        cases htr
        exact fin (snd_eqN (neg := false) ho e1 e3 R h)
      · rename_i e3
        cases htr
        exact fin (snd_eqN (neg := true) ho e1 e3 R h)
      · rename_i e3
        cases htr
        exact fin (snd_eqE (neg := false) ho e1 e3 R h)
      · rename_i e3
        cases htr
        exact fin (snd_eqE (neg := true) ho e1 e3 R h)
      · cases htr
        exact fin (snd_bin ho e1 e2 R h)
    · cases htr
  | unOp op t x =>
    rw [ho] at htr
    simp only [trKd0, Option.map_eq_some_iff] at htr
    obtain ⟨x', hx, rfl⟩ := htr
    exact fin (snd_un ho hx R h)
  | convert src dst x =>
    rw [ho] at htr
    simp only [trKd0] at htr
    split at htr
    · rename_i e1 e2 e3
      cases htr
      exact fin (snd_conv ho e3 (by rw [e1]; rfl) e2 R h)
    · rename_i e1 e2 e3
      split at htr
      · rename_i e4
        cases htr
        exact fin (snd_strOf ho e3 e1 e4 e2 R h)
      · cases htr
    · cases htr
  | slice t x lo hi mx =>
    rw [ho] at htr
    cases mx with
    | some m => simp [trKd0] at htr
    | none =>
    simp only [trKd0] at htr
    split at htr
    · rename_i e1 e2 e3 e4
      cases htr
      exact fin (snd_sliceS ho e2 e3 e4 e1 R h)
    · rename_i e1 e2 e3 e4
      split at htr
      · rename_i i e5
        cases htr
        exact fin (snd_sliceL ho e2 e3 e4 e1 e5 R h)
      · cases htr
    · cases htr
  | extract x i =>
    rw [ho] at htr
    simp only [trKd0, Option.map_eq_some_iff] at htr
    obtain ⟨x', hx, rfl⟩ := htr
    exact fin (snd_extract ho hx R h)
  | nilCheck x =>
    rw [ho] at htr
    simp only [trKd0, Option.map_eq_some_iff] at htr
    obtain ⟨x', hx, rfl⟩ := htr
    exact fin (snd_nilCheck ho hx R h)
  | call c =>
    rw [ho] at htr
    obtain ⟨callee, args, argTypes⟩ := c
    simp only [trKd0, trCall] at htr
    split at htr
    · split at htr
      · rename_i x t e1 e2
        have e1' : args = #[x] := Array.ext' e1
        have e2' : argTypes = #[t] := Array.ext' e2
        subst e1' e2'
        split at htr
        · rename_i e3 e4
          cases htr
          exact fin (snd_len (str := true) ho e3 e4 R h)
        · rename_i e3 e4
          cases htr
          exact fin (snd_len (str := false) ho e3 ⟨_, e4⟩ R h)
        · cases htr
      · cases htr
    · split at htr
      · rename_i x y t t' e1 e2
        have e1' : args = #[x, y] := Array.ext' e1
        have e2' : argTypes = #[t, t'] := Array.ext' e2
        subst e1' e2'
        split at htr
        · rename_i e e3 e4 e5
          split at htr
          · rename_i i e6
            split at htr
            · rename_i z e7
              split at htr
              · rename_i hc
                cases htr
                obtain ⟨rfl, hz, hp⟩ := hc
                exact fin (snd_append ho e3 e4 e5 e6 e7 hz hp R h)
              · cases htr
            · cases htr
          · cases htr
        · cases htr
      · cases htr
    · split at htr
      · rename_i x y e1
        have e1' : args = #[x, y] := Array.ext' e1
        subst e1'
        split at htr
        · rename_i e3 e4
          cases htr
          exact fin (snd_mm (mx := false) ho e3 e4 R h)
        · cases htr
      · cases htr
    · split at htr
      · rename_i x y e1
        have e1' : args = #[x, y] := Array.ext' e1
        subst e1'
        split at htr
        · rename_i e3 e4
          cases htr
          exact fin (snd_mm (mx := true) ho e3 e4 R h)
        · cases htr
      · cases htr
    · rename_i f
      split at htr
      · rename_i hf
        rw [Option.map_eq_some_iff] at htr
        obtain ⟨xs', hx, htr⟩ := htr
        split at htr
        · split at htr
          · subst htr
            exact snd_callS ho hf hx R h hn
          · subst htr
            exact snd_call ho hf hx R h hn
        · subst htr
          exact snd_callS ho hf hx R h hn
      · cases htr
    · split at htr
      · rename_i e3 e4
        cases htr
        exact snd_callV ho e3 e4 R h hn
      · cases htr
    · cases htr
  | makeSlice t x y =>
    rw [ho] at htr
    simp only [trKd0] at htr
    split at htr
    · rename_i e x' y' e1 e2 e3
      split at htr
      · rename_i i e4
        split at htr
        · rename_i z e5
          split at htr
          · rename_i zs e6
            split at htr
            · rename_i hc
              cases htr
              exact fin (snd_makeSlice ho e2 e3 e1 e4 e5 e6 hc.1 hc.2 R h)
            · cases htr
          · cases htr
        · cases htr
      · cases htr
    · cases htr
  | makeFunc fn first caps =>
    rw [ho] at htr
    cases fn with
    | func g =>
      simp only [trKd0] at htr
      split at htr
      · rename_i hf
        rw [Option.map_eq_some_iff] at htr
        obtain ⟨xs, hx, rfl⟩ := htr
        exact fin (snd_makeFunc ho hf hx R h)
      · cases htr
    | _ => simp [trKd0] at htr
  | _ => rw [ho] at htr; simp [trKd0] at htr
theorem kd_sound {mu : List Nat} {k : Kd} (htr : trKd P C.n mu o.dst o.op = some k) {K : AV → AS → Prop} {next : Act → World → Prop} {Q : Exit → Act → World → Prop} (R : Refs C σ ι s a w) (h : Kd.go P d s K k) (hn : ∀ av s' a' w', K av s' → Holds C (s'.put o.dst av) a' w' → next a' w') : o.wp P a w next Q := by
  unfold trKd at htr
  split at htr
  · rename_i k' hk
    cases htr
    exact kd_sound0 hk R h hn
  · cases htr
    exact (show False from h).elim
end
end Go.Proofs.YtbiadmlfejnbcaaGreatDoor

namespace Go.Proofs.YtbiadmlfejnbcaaGreatDoor
open Go Go.RowKit
set_option linter.unusedVariables false
set_option maxHeartbeats 400000

section
variable {P : Program} {C : Ctx} {a : Act} {w : World} {σ : Sto} {ι : AHnd} {s : AS} {Q : Exit → Act → World → Prop}

theorem rep_bool_val {v : Value} {b : Bool} (h : VRep σ s.S ι v (.one (.st (.bool b)))) : v = .bool b := vrep_bool h
theorem rep_tup0 {v : Value} (h : VRep σ s.S ι v (.tup [])) : v = .tuple #[] := by
  cases h with
  | @tup vs _ c h1 =>
    have e : vs = #[] := Array.eq_empty_of_size_eq_zero (by simpa using h1)
    rw [e]
/-- One operation of a region. -/
theorem ins_sound {mu : List Nat} {ops : Array Oper} {i : Nat} {o : Oper} {k k' : Ins} (hi : ops[i]? = some o) (htr : trIns P C.n mu ops.toList o = some k) (hk' : k'.dst = k.dst ∧ k'.guard = k.guard ∧ k'.kd = k.kd) {K : AS → Prop} {next : Act → World → Prop} (R : Refs C σ ι s a w) (h : k'.go P s K) (hn : ∀ s' a' w', K s' → Holds C s' a' w' → next a' w') :
    wpOp P ops Q i next a w := by
  unfold trIns at htr
  split at htr
  · rename_i g kd e1 e2
    cases htr
    obtain ⟨dst', g', kd', tag'⟩ := k'
    obtain ⟨hk1, hk2, hk3⟩ := hk'
    dsimp only at hk1 hk2 hk3
    subst hk1 hk2 hk3
    unfold wpOp
    rw [hi]
    dsimp only
    have body : ∀ {K' : AV → AS → Prop}, kd'.goT P (o.dst.getD 0) s tag' K' → (∀ av s', K' av s' → K (s'.put o.dst av)) → o.wp P a w next Q := fun hk hK' => kd_sound e2 R (goT_go hk) fun av s' a' w' hav hH => hn _ _ _ (hK' _ _ hav) hH
    unfold Ins.go at h
    dsimp only at h
    cases hg : o.guard with
    | none =>
      rw [hg] at e1
      simp only [trGuard, Option.some.injEq] at e1
      subst e1
      rw [if_pos (by simp [Region.wanted, hg])]
      exact .inl (body h fun _ _ hk => hk)
    | some jw =>
      obtain ⟨j, want⟩ := jw
      rw [hg] at e1
      simp only [trGuard] at e1
      split at e1
      · rename_i oj hoj
        split at e1
        · rename_i t ht
          split at e1
          · rename_i hlt
            cases e1
            dsimp only at h
            have hoj' : ops[j]? = some oj := by simpa using hoj
            have rt := R.env t hlt
            have hsz : t < a.tmps.size := Nat.lt_of_lt_of_le hlt R.size
            have hy : ∀ b, a.tmps.getD t undef = .bool b → yielded ops a.tmps j = some b := fun b hb => by
              unfold yielded
              rw [hoj']
              simp only [Option.bind_some, ht]
              rw [Array.getD_eq_getD_getElem?, Array.getElem?_eq_getElem hsz] at hb
              rw [Array.getElem?_eq_getElem hsz]
              simp only [Option.getD_some] at hb
              rw [hb]
            split at h
            · rename_i b e3
              rw [e3] at rt
              have hb := hy b (vrep_bool rt)
              by_cases hw : b = want
              · rw [if_pos (by simp [Region.wanted, hg, hb, hw])]
                exact .inl (body (h.1 hw) fun _ _ hk => hk)
              · rw [if_neg (by simp [Region.wanted, hg, hb, hw])]
                exact hn _ _ _ (h.2 hw) ⟨σ, ι, R.put (.tup (fun _ => undef) rfl (by simp) (by simp))⟩
            · rename_i e3
              rw [e3] at rt
              have hv := rep_tup0 rt
              have hb : yielded ops a.tmps j = none := by
                unfold yielded
                rw [hoj']
                simp only [Option.bind_some, ht]
                rw [Array.getD_eq_getD_getElem?, Array.getElem?_eq_getElem hsz] at hv
                rw [Array.getElem?_eq_getElem hsz]
                simp only [Option.getD_some] at hv
                rw [hv]
              rw [if_neg (by simp [Region.wanted, hg, hb])]
              exact hn _ _ _ h ⟨σ, ι, R.put (.tup (fun _ => undef) rfl (by simp) (by simp))⟩
            · exact h.elim
          · cases e1
        · cases e1
      · cases e1
  · cases htr

theorem trAll_get {n : Nat} {mu : List Nat} {ops : List Oper} : ∀ {l : List Oper} {ks : List Ins}, trAll P n mu ops l = some ks → l.length = ks.length ∧ ∀ (i : Nat) (o : Oper), l[i]? = some o → ∃ k, ks[i]? = some k ∧ trIns P n mu ops o = some k
  | [], ks, h => by
    simp only [trAll, Option.some.injEq] at h
    subst h
    simp
  | o :: os, ks, h => by
    simp only [trAll] at h
    split at h
    · rename_i k ks' e1 e2
      cases h
      obtain ⟨h1, h2⟩ := trAll_get e2
      refine ⟨by simp [h1], fun i o' ho' => ?_⟩
      cases i with
      | zero =>
        simp at ho'
        subst ho'
        exact ⟨k, rfl, e1⟩
      | succ i => simpa using h2 i o' (by simpa using ho')
    · cases h

theorem filterMap_range {α : Type} : ∀ l : List α, (List.range l.length).filterMap (fun i => l[i]?) = l
  | [] => rfl
  | x :: l => by
    rw [List.length_cons, List.range_succ_eq_map, List.filterMap_cons, List.filterMap_map]
    simp only [List.getElem?_cons_zero]
    congr 1
    have := filterMap_range l
    exact this
/-- A region that keeps the text's order. -/
theorem region_text {mu : List Nat} {ops : Array Oper} {ks : List Ins} {id : Nat} (htr : trAll P C.n mu ops.toList ops.toList = some ks) {K : AS → Prop} (R : Refs C σ ι s a w) (h : Run P ks s K) (hn : ∀ s' a' w', K s' → Holds C s' a' w' → Q .normal a' w') :
    (Code.region id ops false).wp P Q a w := by
  obtain ⟨hl, hget⟩ := trAll_get htr
  refine wp_region ?_
  have key : ∀ (m k : Nat) (s : AS) (a : Act) (w : World), k + m = ops.size → Holds C s a w → Run P (ks.drop k) s K → wpOps P ops Q (List.range' k m) a w := by
    intro m
    induction m with
    | zero =>
      intro k s a w hk hH hr
      have : ks.drop k = [] := List.drop_of_length_le (by simp at hl; omega)
      rw [this] at hr
      exact hn _ _ _ hr hH
    | succ m ih =>
      intro k s a w hk hH hr
      have hlt : k < ops.toList.length := by simp; omega
      obtain ⟨kk, h1, h2⟩ := hget k _ (List.getElem?_eq_getElem hlt)
      have hd : ks.drop k = kk :: ks.drop (k + 1) := by
        have hk' := (List.getElem?_eq_some_iff.1 h1).1
        rw [List.drop_eq_getElem_cons hk']
        congr 1
        exact (List.getElem?_eq_some_iff.1 h1).2
      rw [hd, run_cons] at hr
      obtain ⟨σ, ι, R⟩ := hH
      rw [List.range'_succ, wpOps_cons]
      exact ins_sound (i := k) (by rw [← Array.getElem?_toList]; exact List.getElem?_eq_getElem hlt) h2 ⟨rfl, rfl, rfl⟩ R hr fun s' a' w' hK hH' => ih (k + 1) s' a' w' (by omega) hH' hK
  rw [List.range_eq_range']
  exact key ops.size 0 s a w (by omega) ⟨σ, ι, R⟩ (by simpa using h)

/-! ### any order -/
/-- Does operation i come behind operation j? -/
def behind (ops : List Oper) : Nat → Nat → Nat → Bool
  | 0, _, _ => false
  | f + 1, j, i => match ops[i]? with
    | some o => o.after.any fun e => Region.binds .any e && (e.on == j || behind ops f j e.on)
    | none => false
def orderOk (ops : List Oper) (ks : List Ins) : Bool :=
  (List.range ops.length).all fun i =>
    (match ops[i]? with | some o => o.after.all (fun e => !Region.binds .any e || e.on < i) | none => true) &&
    (List.range i).all fun j => match ks[j]?, ks[i]? with
      | some x, some y => x.indep y || behind ops ops.length j i
      | _, _ => true

theorem behind_listed {ops : Array Oper} {listed : Array Bool} (hdc : ∀ k o, ops[k]? = some o → listed.getD k true = true → k < ops.size → ∀ e ∈ o.after, Region.binds .any e = true → listed.getD e.on false = true) {i : Nat} :
    ∀ (f j i : Nat), (∀ o, ops[i]? = some o → ∀ e ∈ o.after, Region.binds .any e = true → listed.getD e.on false = true) → behind ops.toList f j i = true → listed.getD j false = true := by
  intro f
  induction f with
  | zero => intro j i _ h; simp [behind] at h
  | succ f ih =>
    intro j i hi h
    simp only [behind] at h
    split at h
    · rename_i o ho
      have ho' : ops[i]? = some o := by simpa using ho
      obtain ⟨k, hk, h2⟩ := Array.any_eq_true.1 h
      simp only [Bool.and_eq_true, Bool.or_eq_true, beq_iff_eq] at h2
      have hl := hi o ho' _ (Array.getElem_mem hk) h2.1
      rcases h2.2 with h3 | h3
      · rw [← h3]; exact hl
      · refine ih j _ (fun o2 ho2 e he hb => ?_) h3
        have hlt := (Array.getElem?_eq_some_iff.1 ho2).1
        refine hdc _ o2 ho2 ?_ hlt e he hb
        rcases Nat.lt_or_ge (o.after[k]).on listed.size with h' | h'
        · simp [h'] at hl ⊢; exact hl
        · simp [Array.getElem?_eq_none h']
    · cases h

/-- The same operations, tagged. -/
def Retag (ks ks' : List Ins) : Prop := ks.length = ks'.length ∧ ∀ (i : Nat) k, ks[i]? = some k → ∃ k' : Ins, ks'[i]? = some k' ∧ k'.dst = k.dst ∧ k'.guard = k.guard ∧ k'.kd = k.kd
def retag (f : Nat → Tag) : Nat → List Ins → List Ins
  | _, [] => []
  | i, k :: ks => ⟨k.dst, k.guard, k.kd, f i⟩ :: retag f (i + 1) ks
theorem retag_ok (f : Nat → Tag) : ∀ (n : Nat) (ks : List Ins), Retag ks (retag f n ks)
  | _, [] => ⟨rfl, fun i k h => by simp at h⟩
  | n, k :: ks => by
    obtain ⟨h1, h2⟩ := retag_ok f (n + 1) ks
    refine ⟨by simp [retag, h1], fun i k' hk' => ?_⟩
    cases i with
    | zero =>
      simp only [List.getElem?_cons_zero, Option.some.injEq] at hk'
      subst hk'
      exact ⟨_, rfl, rfl, rfl, rfl⟩
    | succ i => exact h2 i k' (by simpa using hk')
theorem Retag.refl (ks : List Ins) : Retag ks ks := ⟨rfl, fun i k h => ⟨k, h, rfl, rfl, rfl⟩⟩
theorem region_any {mu : List Nat} {ops : Array Oper} {ks0 ks : List Ins} {id : Nat} (hmix : P.follows .mixedOrders = true) (htr : trAll P C.n mu ops.toList ops.toList = some ks0) (hre : Retag ks0 ks) (hok : orderOk ops.toList ks = true) {K : AS → Prop} (R : Refs C σ ι s a w) (h : Run P ks s K) (hn : ∀ s' a' w', K s' → Holds C s' a' w' → Q .normal a' w') :
    (Code.region id ops true).wp P Q a w := by
  obtain ⟨hl0, hget0⟩ := trAll_get htr
  have hl : ops.size = ks.length := by
    rw [← hre.1, ← hl0, Array.length_toList]
  have hget : ∀ (i : Nat) (o : Oper), ops.toList[i]? = some o → ∃ k', ks[i]? = some k' ∧ ∃ k, trIns P C.n mu ops.toList o = some k ∧ k'.dst = k.dst ∧ k'.guard = k.guard ∧ k'.kd = k.kd := fun i o ho => by
    obtain ⟨k, h1, h2⟩ := hget0 i o ho
    obtain ⟨k', q1, q2⟩ := hre.2 i k h1
    exact ⟨k', q1, k, h2, q2⟩
  refine wp_region_any hmix ?_
  have hchk : ∀ i, i < ops.size → (∀ o, ops[i]? = some o → ∀ e ∈ o.after, Region.binds .any e = true → e.on < i) ∧ ∀ j, j < i → ∀ x y, ks[j]? = some x → ks[i]? = some y → x.indep y = true ∨ behind ops.toList ops.toList.length j i = true := fun i hi => by
    have h1 := List.all_eq_true.1 hok i (List.mem_range.2 (by simpa using hi))
    simp only [Bool.and_eq_true] at h1
    refine ⟨fun o ho e he hb => ?_, fun j hj x y hx hy => ?_⟩
    · have h2 := h1.1
      rw [show ops.toList[i]? = some o by simpa using ho] at h2
      dsimp only at h2
      obtain ⟨k, hk, rfl⟩ := Array.getElem_of_mem he
      have h3 := (Array.all_eq_true.1 h2) k hk
      simpa [hb] using h3
    · have h2 := List.all_eq_true.1 h1.2 j (List.mem_range.2 hj)
      rw [hx, hy] at h2
      simpa using h2
  -- the rest: what is not listed, in the text's order
  have key : ∀ (f : Nat) (T : List Nat) (listed : Array Bool) (s : AS) (a : Act) (w : World), T.length ≤ f → listed.size = ops.size → T.Pairwise (· < ·) → (∀ i, i ∈ T ↔ i < ops.size ∧ listed.getD i true = false) →
      (∀ k o, ops[k]? = some o → listed.getD k true = true → k < ops.size → ∀ e ∈ o.after, Region.binds .any e = true → listed.getD e.on false = true) → Holds C s a w → Run P (T.filterMap fun i => ks[i]?) s K → wpAny P .any ops Q f listed a w := by
    intro f
    induction f with
    | zero =>
      intro T listed s a w hf hsz hs hT hdc hH hr
      have hT0 : T = [] := List.eq_nil_of_length_eq_zero (by omega)
      subst hT0
      refine ⟨?_, hn _ _ _ hr hH⟩
      rw [List.eq_nil_iff_forall_not_mem]
      intro i hi
      obtain ⟨q1, o, q2, q3⟩ := mem_ready.1 hi
      have := (hT i).2 ⟨(Array.getElem?_eq_some_iff.1 q2).1, q1⟩
      cases this
    | succ f ih =>
      intro T listed s a w hf hsz hs hT hdc hH hr
      refine ⟨fun hready => ?_, fun i hi => ?_⟩
      · -- nothing may come up: nothing is left
        cases T with
        | nil => exact hn _ _ _ hr hH
        | cons i T =>
          exfalso
          obtain ⟨hi1, hi2⟩ := (hT i).1 (by simp)
          have : i ∈ Region.ready .any ops listed := by
            refine mem_ready.2 ⟨hi2, ops[i], Array.getElem?_eq_getElem hi1, fun e he hb => ?_⟩
            have hlt := (hchk i hi1).1 _ (Array.getElem?_eq_getElem hi1) e he hb
            cases hq : listed.getD e.on true with
            | true =>
              simp [show e.on < listed.size by omega] at hq ⊢
              exact hq
            | false =>
              have hmem := (hT e.on).2 ⟨by omega, hq⟩
              rcases List.mem_cons.1 hmem with h | h
              · omega
              · have := (List.pairwise_cons.1 hs).1 _ h
                omega
          rw [hready] at this
          cases this
      · obtain ⟨q1, o, q2, q3⟩ := mem_ready.1 hi
        have hi1 := (Array.getElem?_eq_some_iff.1 q2).1
        have hmem := (hT i).2 ⟨hi1, q1⟩
        obtain ⟨pre, post, rfl⟩ := List.append_of_mem hmem
        obtain ⟨y, hy1, y0, hy2, hy3⟩ := hget i o (by simpa using q2)
        rw [List.filterMap_append, List.filterMap_cons, hy1] at hr
        dsimp only at hr
        have hpre : ∀ j ∈ pre, j < i := fun j hj => (List.pairwise_append.1 hs).2.2 j hj i (by simp)
        have hfront := run_front (P := P) (K := K) (pre := pre.filterMap fun i => ks[i]?) (y := y) (post := post.filterMap fun i => ks[i]?) (fun x hx => by
          obtain ⟨j, hj, hxj⟩ := List.mem_filterMap.1 hx
          have hji := hpre j hj
          rcases (hchk i hi1).2 j hji x y hxj hy1 with hind | hbe
          · exact hind
          · exfalso
            have h1 := behind_listed (ops := ops) (listed := listed) hdc (i := i) _ j i (fun o2 ho2 e he hb => by
              rw [q2] at ho2
              cases ho2
              exact q3 e he hb) hbe
            have h2 := ((hT j).1 (by simp [hj])).2
            have h3 := ((hT j).1 (by simp [hj])).1
            simp [show j < listed.size by omega] at h1 h2
            rw [h1] at h2
            cases h2) hr
        obtain ⟨σ, ι, R⟩ := hH
        refine ins_sound q2 hy2 hy3 R hfront fun s' a' w' hK hH' => ?_
        rw [← List.filterMap_append] at hK
        have hsub : (pre ++ post).Pairwise (· < ·) := by
          refine hs.sublist ?_
          exact List.Sublist.append (List.Sublist.refl pre) (List.sublist_cons_self i post)
        have hni : i ∉ pre ++ post := fun hm => by
          rcases List.mem_append.1 hm with hm | hm
          · have := hpre i hm; omega
          · have := (List.pairwise_cons.1 (List.pairwise_append.1 hs).2.1).1 i hm; omega
        refine ih (pre ++ post) (listed.setIfInBounds i true) s' a' w' (by simp at hf ⊢; omega) (by simpa using hsz) hsub (fun j => ?_) (fun k ok hok2 hlk hkk e he hb => ?_) hH' hK
        · constructor
          · intro hj
            have hji : i ≠ j := fun e => hni (e ▸ hj)
            have := (hT j).1 (by
              rcases List.mem_append.1 hj with h | h
              · simp [h]
              · simp [h])
            rw [getD_set_ne true hji]
            exact this
          · rintro ⟨h1, h2⟩
            have hji : i ≠ j := fun e => by
              subst e
              simp [show i < listed.size by omega] at h2
            rw [getD_set_ne true hji] at h2
            have := (hT j).2 ⟨h1, h2⟩
            rcases List.mem_append.1 this with h | h
            · exact List.mem_append.2 (.inl h)
            · rcases List.mem_cons.1 h with h | h
              · exact absurd h.symm hji
              · exact List.mem_append.2 (.inr h)
        · by_cases hki : i = k
          · subst hki
            rw [q2] at hok2
            cases hok2
            exact getD_set_true (q3 e he hb)
          · rw [getD_set_ne true hki] at hlk
            exact getD_set_true (hdc k ok hok2 hlk hkk e he hb)
  refine key ops.size (List.range ops.size) (Array.replicate ops.size false) s a _ (by simp) (by simp) List.pairwise_lt_range (fun i => ?_) (fun k o hk hlk hkk e he hb => ?_) ⟨σ, ι, R.drew⟩ ?_
  · rw [List.mem_range]
    constructor
    · intro hi; exact ⟨hi, by simp [hi]⟩
    · exact fun h => h.1
  · simp [hkk] at hlk
  · have e : (List.range ops.size).filterMap (fun i => ks[i]?) = ks := by
      rw [hl]
      exact filterMap_range ks
    rw [e]
    exact h
end
end Go.Proofs.YtbiadmlfejnbcaaGreatDoor

namespace Go.Proofs.YtbiadmlfejnbcaaGreatDoor
open Go Go.RowKit
set_option linter.unusedVariables false
set_option maxHeartbeats 400000

/-! ### tags: for operations that no order is set for, and that look at, or turn, different blocks -/
/-- The block that slot t's pointer is to: as the hints say; or as the slot it came from; or the slot's own. -/
def baseId (hints : List Nat) (ks : List Ins) : Nat → Nat → Nat
  | 0, t => t
  | f + 1, t => match hints.find? fun m => m / 10000 == 1000 + t with
    | some m => m % 10000
    | none => match ks.find? fun k => k.dst == some t with
      | some k => match k.kd with
        | .mov (.t u) => baseId hints ks f u
        | .fieldAddr _ (.t u) => baseId hints ks f u
        | .nilCheck (.t u) => baseId hints ks f u
        | _ => t
      | none => t
def conflicts (ops : List Oper) (ks : List Ins) : List (Nat × Nat) :=
  (List.range ops.length).flatMap fun i => (List.range i).filterMap fun j => match ks[j]?, ks[i]? with
    | some x, some y => if x.indep y || behind ops ops.length j i then none else some (j, i)
    | _, _ => none
def ptrBase (hints : List Nat) (ks : List Ins) (i : Nat) : Option Nat := match ks[i]? with
  | some k => match k.kd.ptrOpd with
    | some (.t u) => some (baseId hints ks ks.length u)
    | _ => none
  | none => none
def tagOf (hints : List Nat) (ks : List Ins) (conf : List (Nat × Nat)) (i : Nat) : Tag :=
  if conf.any fun p => p.1 == i || p.2 == i then match ks[i]? with
    | some k => match k.kd with
      | .load _ _ _ | .store _ _ _ | .fieldAddr _ _ | .nilCheck _ => match ptrBase hints ks i with
        | some id => .onb id
        | none => .no
      | .callS _ _ | .callV _ _ | .append _ _ _ _ _ _ => .keeps (conf.filterMap fun p => if p.1 == i then ptrBase hints ks p.2 else if p.2 == i then ptrBase hints ks p.1 else none)
      | _ => .no
    | none => .no
  else .no
def tagged (mu : List Nat) (ops : List Oper) (ks : List Ins) : List Ins := retag (tagOf (mu.filter fun m => 10000000 ≤ m) ks (conflicts ops ks)) 0 ks

def trCode (P : Program) (n : Nat) (mu : List Nat) : Code → Option IR
  | .skip => some .skip
  | .region _ ops draw => match trAll P n mu ops.toList ops.toList with
    | some ks => if draw then if P.follows .mixedOrders && orderOk ops.toList ks then some (.ops ks) else if P.follows .mixedOrders && orderOk ops.toList (tagged mu ops.toList ks) then some (.ops (tagged mu ops.toList ks)) else none else some (.ops ks)
    | none => none
  | .seq x y => match trCode P n mu x, trCode P n mu y with
    | some x', some y' => some (.seq x' y')
    | _, _ => none
  | .cond c x y => match trOpd n c, trCode P n mu x, trCode P n mu y with
    | some c', some x', some y' => some (.cond c' x' y')
    | _, _, _ => none
  | .block id x => (trCode P n mu x).map (.block id)
  | .loop x => (trCode P n mu x).map .loop
  | .exit id => some (.exit id)
  | .ret => some .ret
  | _ => none

inductive AX where
  | normal
  | exit (id : Nat)
  | ret
def lift (C : Ctx) (Q : AX → AS → Prop) : Exit → Act → World → Prop
  | .normal, a, w => ∃ s, Q .normal s ∧ Holds C s a w
  | .exit id, a, w => ∃ s, Q (.exit id) s ∧ Holds C s a w
  | .ret, a, w => ∃ s, Q .ret s ∧ Holds C s a w
  | _, _, _ => False
/-- The code x brings each frame and world that s stands for to ones for which Q holds. -/
def IWP (P : Program) (C : Ctx) (mu : List Nat) (x : IR) (Q : AX → AS → Prop) (s : AS) : Prop :=
  ∀ c, trCode P C.n mu c = some x → ∀ a w, Holds C s a w → c.wp P (lift C Q) a w
/-- What s stands for, s' stands for too. -/
def Ghost (C : Ctx) (s s' : AS) : Prop := ∀ a w, Holds C s a w → Holds C s' a w
def AX.then (K : AS → Prop) (Q : AX → AS → Prop) : AX → AS → Prop
  | .normal, s => K s
  | e, s => Q e s
def AX.inBlock (id : Nat) (Q : AX → AS → Prop) : AX → AS → Prop
  | .exit id', s => if id' = id then Q .normal s else Q (.exit id') s
  | e, s => Q e s

section
variable {P : Program} {C : Ctx} {mu : List Nat} {Q Q' : AX → AS → Prop} {s s' : AS} {x y : IR}
theorem IWP.mono (h : IWP P C mu x Q s) (hq : ∀ e s, Q e s → Q' e s) : IWP P C mu x Q' s := fun c hc a w hH => wp_mono (h c hc a w hH) fun e a' w' he => by
  cases e <;> first | exact he | (obtain ⟨s1, h1, h2⟩ := he; exact ⟨s1, hq _ _ h1, h2⟩)
theorem IWP.ghost (hg : Ghost C s s') (h : IWP P C mu x Q s') : IWP P C mu x Q s := fun c hc a w hH => h c hc a w (hg a w hH)
theorem Ghost.refl (C : Ctx) (s : AS) : Ghost C s s := fun _ _ h => h
theorem Ghost.trans {s1 s2 s3 : AS} (h : Ghost C s1 s2) (k : Ghost C s2 s3) : Ghost C s1 s3 := fun a w hH => k a w (h a w hH)
theorem IWP.skip (h : Q .normal s) : IWP P C mu .skip Q s := fun c hc a w hH => by
  cases c <;> simp only [trCode] at hc <;> first | exact wp_skip ⟨s, h, hH⟩ | (exfalso; revert hc; (repeat' split) <;> simp)
theorem IWP.ops {l : List Ins} (h : Run P l s (Q .normal)) : IWP P C mu (.ops l) Q s := fun c hc a w hH => by
  cases c <;> simp only [trCode] at hc
  case region id ops draw =>
    split at hc
    · rename_i ks e1
      obtain ⟨σ, ι, R⟩ := hH
      cases draw with
      | true =>
        simp only [if_true] at hc
        split at hc
        · rename_i h1
          cases hc
          simp only [Bool.and_eq_true] at h1
          exact region_any h1.1 e1 (Retag.refl _) h1.2 R h fun s' a' w' hs hh => ⟨s', hs, hh⟩
        · split at hc
          · rename_i h1
            cases hc
            simp only [Bool.and_eq_true] at h1
            exact region_any h1.1 e1 (retag_ok _ 0 _) h1.2 R h fun s' a' w' hs hh => ⟨s', hs, hh⟩
          · cases hc
      | false =>
        simp only [Bool.false_eq_true, if_false, Option.some.injEq, IR.ops.injEq] at hc
        subst hc
        exact region_text e1 R h fun s' a' w' hs hh => ⟨s', hs, hh⟩
    · cases hc
  all_goals (exfalso; revert hc; (repeat' split) <;> simp)
/-- What stands behind the first of two pieces of code. -/
def seqQ (P : Program) (C : Ctx) (mu : List Nat) (y : IR) (Q : AX → AS → Prop) : AX → AS → Prop := AX.then (IWP P C mu y Q) Q
theorem seqQ_normal (h : IWP P C mu y Q s) : seqQ P C mu y Q .normal s := h
theorem seqQ_exit {id : Nat} (h : Q (.exit id) s) : seqQ P C mu y Q (.exit id) s := h
theorem seqQ_ret (h : Q .ret s) : seqQ P C mu y Q .ret s := h
theorem inBlock_normal {id : Nat} (h : Q .normal s) : AX.inBlock id Q .normal s := h
theorem inBlock_here {id : Nat} (h : Q .normal s) : AX.inBlock id Q (.exit id) s := by simp only [AX.inBlock, if_true]; exact h
theorem inBlock_away {id id' : Nat} (hne : id' ≠ id) (h : Q (.exit id') s) : AX.inBlock id Q (.exit id') s := by simp only [AX.inBlock, hne, if_false]; exact h
theorem inBlock_ret {id : Nat} (h : Q .ret s) : AX.inBlock id Q .ret s := h
theorem then_normal {K : AS → Prop} (h : K s) : AX.then K Q .normal s := h
theorem then_exit {K : AS → Prop} {id : Nat} (h : Q (.exit id) s) : AX.then K Q (.exit id) s := h
theorem then_ret {K : AS → Prop} (h : Q .ret s) : AX.then K Q .ret s := h
/-- Operations, what stands behind them out of sight. -/
theorem IWP.opsK {l : List Ins} (h : ∀ K : AS → Prop, (∀ s, Q .normal s → K s) → Run P l s K) : IWP P C mu (.ops l) Q s := IWP.ops (h _ fun _ h => h)
theorem IWP.seq (h : IWP P C mu x (seqQ P C mu y Q) s) : IWP P C mu (.seq x y) Q s := fun c hc a w hH => by
  cases c <;> simp only [trCode] at hc
  case seq c1 c2 =>
    split at hc
    · rename_i x' y' e1 e2
      cases hc
      refine wp_seq (wp_mono (h c1 e1 a w hH) fun e a' w' he => ?_)
      cases e <;> first | exact he | (obtain ⟨s1, h1, h2⟩ := he; exact h1 c2 e2 a' w' h2)
    · cases hc
  all_goals (exfalso; revert hc; (repeat' split) <;> simp)
theorem IWP.cond {c0 : Opd} (h : match s.ev c0 with | .one (.st (.bool b)) => (b = true → IWP P C mu x Q s) ∧ (b = false → IWP P C mu y Q s) | _ => False) : IWP P C mu (.cond c0 x y) Q s := fun c hc a w hH => by
  cases c <;> simp only [trCode] at hc
  case cond cc c1 c2 =>
    split at hc
    · rename_i c' x' y' e0 e1 e2
      cases hc
      split at h
      · rename_i b eb
        obtain ⟨σ, ι, R⟩ := hH
        have rb := R.ev e0
        rw [eb] at rb
        exact wp_cond_split (vrep_bool rb) (fun ht => h.1 ht c1 e1 a w ⟨σ, ι, R⟩) (fun ht => h.2 ht c2 e2 a w ⟨σ, ι, R⟩)
      · exact h.elim
    · cases hc
  all_goals (exfalso; revert hc; (repeat' split) <;> simp)
theorem IWP.block {id : Nat} (h : IWP P C mu x (AX.inBlock id Q) s) : IWP P C mu (.block id x) Q s := fun c hc a w hH => by
  cases c <;> simp only [trCode] at hc
  case block id' c1 =>
    rw [Option.map_eq_some_iff] at hc
    obtain ⟨x', e1, e2⟩ := hc
    cases e2
    refine wp_block (wp_mono (h c1 e1 a w hH) fun e a' w' he => ?_)
    cases e <;> first | exact he | skip
    case exit id2 =>
      obtain ⟨s1, h1, h2⟩ := he
      simp only [AX.inBlock] at h1
      simp only [Exit.inBlock]
      by_cases e : id2 = id
      · rw [if_pos e] at h1 ⊢
        exact ⟨s1, h1, h2⟩
      · rw [if_neg e] at h1 ⊢
        exact ⟨s1, h1, h2⟩
  all_goals (exfalso; revert hc; (repeat' split) <;> simp)
theorem IWP.exit {id : Nat} (h : Q (.exit id) s) : IWP P C mu (.exit id) Q s := fun c hc a w hH => by
  cases c <;> simp only [trCode] at hc
  case exit id' =>
    cases hc
    exact wp_exit ⟨s, h, hH⟩
  all_goals (exfalso; revert hc; (repeat' split) <;> simp)
theorem IWP.ret (h : Q .ret s) : IWP P C mu .ret Q s := fun c hc a w hH => by
  cases c <;> simp only [trCode] at hc
  case ret => exact wp_ret ⟨s, h, hH⟩
  all_goals (exfalso; revert hc; (repeat' split) <;> simp)
/-- A loop: Inv m holds ahead of each round, m falls. -/
theorem IWP.loop (Inv : Nat → AS → Prop) (m0 : Nat) (h0 : Inv m0 s) (h : ∀ m s, Inv m s → IWP P C mu x (AX.then (fun s' => ∃ m', m' < m ∧ Inv m' s') Q) s) : IWP P C mu (.loop x) Q s := fun c hc a w hH => by
  cases c <;> simp only [trCode] at hc
  case loop c1 =>
    rw [Option.map_eq_some_iff] at hc
    obtain ⟨x', e1, e2⟩ := hc
    cases e2
    have least : ∀ a w, (∃ m s, Inv m s ∧ Holds C s a w) → ∃ m, (∃ s, Inv m s ∧ Holds C s a w) ∧ ∀ m', (∃ s, Inv m' s ∧ Holds C s a w) → m ≤ m' := fun a w ⟨m, s, h1, h2⟩ => by
      have key : ∀ n m, m ≤ n → (∃ s, Inv m s ∧ Holds C s a w) → ∃ m, (∃ s, Inv m s ∧ Holds C s a w) ∧ ∀ m', (∃ s, Inv m' s ∧ Holds C s a w) → m ≤ m' := by
        intro n
        induction n with
        | zero => intro m hm hs; exact ⟨m, hs, fun m' _ => by omega⟩
        | succ n ih =>
          intro m hm hs
          by_cases hex : ∃ m', m' < m ∧ ∃ s, Inv m' s ∧ Holds C s a w
          · obtain ⟨m', hlt, hs'⟩ := hex
            exact ih m' (by omega) hs'
          · refine ⟨m, hs, fun m' hs' => ?_⟩
            rcases Nat.lt_or_ge m' m with hlt | hge
            · exact absurd ⟨m', hlt, hs'⟩ hex
            · exact hge
      exact key m m (Nat.le_refl _) ⟨s, h1, h2⟩
    open Classical in
    refine wp_loop (fun a w => ∃ m s, Inv m s ∧ Holds C s a w) (fun a w => if hx : ∃ m s, Inv m s ∧ Holds C s a w then (least a w hx).choose else 0) ⟨m0, s, h0, hH⟩ fun a w hI => ?_
    obtain ⟨⟨s1, i1, i2⟩, hmin⟩ := (least a w hI).choose_spec
    refine wp_mono (h _ s1 i1 c1 e1 a w i2) fun e a' w' he => ?_
    cases e <;> first | exact he | skip
    case normal =>
      obtain ⟨s2, ⟨m', hlt, hinv⟩, hH2⟩ := he
      have hx' : ∃ m s, Inv m s ∧ Holds C s a' w' := ⟨m', s2, hinv, hH2⟩
      refine ⟨hx', ?_⟩
      rw [dif_pos hx', dif_pos hI]
      have := (least a' w' hx').choose_spec.2 m' ⟨s2, hinv, hH2⟩
      omega
  all_goals (exfalso; revert hc; (repeat' split) <;> simp)
end

/-! ### what holds of values that stand in a state -/
mutual
def SV.known : SV → Prop
  | .int k n => inR k n
  | .str b => b.size ≤ maxLen
  | .list xs => xs.length ≤ maxLen ∧ SV.knownLL xs
  | _ => True
def SV.knownLL : List (List SV) → Prop
  | [] => True
  | x :: xs => SV.knownL x ∧ SV.knownLL xs
def SV.knownL : List SV → Prop
  | [] => True
  | c :: cs => c.known ∧ SV.knownL cs
end
theorem knownL_iff : ∀ {l : List SV}, SV.knownL l ↔ ∀ c ∈ l, c.known
  | [] => by simp [SV.knownL]
  | c :: cs => by simp [SV.knownL, knownL_iff (l := cs)]
theorem knownLL_iff : ∀ {l : List (List SV)}, SV.knownLL l ↔ ∀ x ∈ l, SV.knownL x
  | [] => by simp [SV.knownLL]
  | c :: cs => by simp [SV.knownLL, knownLL_iff (l := cs)]
def AC.known (S : AStore) : AC → Prop
  | .st c => c.known
  | .full xs => xs.length ≤ maxLen ∧ SV.knownLL xs
  | _ => True
def AV.known (S : AStore) : AV → Prop
  | .one c => c.known S
  | .agg cs => ∀ c ∈ cs, c.known S
  | _ => True
theorem SRep.known {σ : Sto} {v : Value} {c : SV} (h : SRep σ v c) : c.known := by
  induction h with
  | int h => exact h
  | str h => exact h
  | @list p len cap b o w xs c h1 h2 h3 h4 h5 h6 h7 h8 ih =>
    refine ⟨by omega, knownLL_iff.2 fun x hx => knownL_iff.2 fun y hy => ?_⟩
    obtain ⟨k, hk, rfl⟩ := List.getElem_of_mem hx
    obtain ⟨j, hj, rfl⟩ := List.getElem_of_mem hy
    exact ih k _ j _ (List.getElem?_eq_getElem hk) (List.getElem?_eq_getElem hj)
  | _ => trivial
theorem ARep.known {σ : Sto} {S : AStore} {ι : AHnd} {v : Value} {c : AC} (h : ARep σ S ι v c) : c.known S := by
  cases h with
  | st h => exact h.known
  | full h => exact h.known
  | _ => trivial
theorem VRep.known {σ : Sto} {S : AStore} {ι : AHnd} {v : Value} {c : AV} (h : VRep σ S ι v c) : c.known S := by
  cases h with
  | one h => exact h.known
  | agg h =>
    intro c hc
    obtain ⟨i, hi, rfl⟩ := List.getElem_of_mem hc
    obtain ⟨b, _, hb⟩ := h.get (List.getElem?_eq_getElem hi)
    exact hb.known
  | _ => trivial
/-- What is known of the value in slot t. -/
theorem IWP.learn {P : Program} {C : Ctx} {mu : List Nat} {Q : AX → AS → Prop} {s : AS} {x : IR} (t : Nat) (ht : t < C.n) (h : (s.env t).known s.S → IWP P C mu x Q s) : IWP P C mu x Q s := fun c hc a w hH => by
  obtain ⟨σ, ι, R⟩ := hH
  exact h (R.env t ht).known c hc a w ⟨σ, ι, R⟩

/-! ### entering a function -/
inductive RV where
  | t (i : Nat)
  | cell (i : Nat) (g : Bool) (n : Nat)
def trRes (P : Program) (n : Nat) : List ResultVar → Option (List RV)
  | [] => some []
  | .tmp t :: l => match trRes P n l with
    | some r => if t < n then some (.t t :: r) else none
    | none => none
  | .cell t ty :: l => match trRes P n l, sizeG P ty with
    | some r, some (g, k) => if t < n then some (.cell t g k :: r) else none
    | _, _ => none
def resOne (s : AS) : RV → Option AV
  | .t i => some (s.env i)
  | .cell i g n => match s.env i with
    | .one (.ptr id m k off) => match blkCells s.S id m k with
      | some cs => if off + n ≤ cs.length then some (pack g ((cs.drop off).take n)) else none
      | none => none
    | _ => none
def resAll (s : AS) : List RV → Option (List AV)
  | [] => some []
  | r :: l => match resOne s r, resAll s l with
    | some v, some vs => some (v :: vs)
    | _, _ => none
def tupV : List AV → AV
  | [v] => v
  | vs => .tup vs
/-- The results, as the caller may have them. -/
def AS.result (s : AS) (rs : List RV) : Option AV := match resAll s rs with
  | some vs => outV s.S (tupV vs)
  | none => none
def resSem (tmps : Array Value) : ResultVar → Sem Value
  | .tmp t => pure (tmps.getD t undef)
  | .cell x t => do loadVar t (← asAddr (tmps.getD x undef))
theorem results_eq (fn : Func) (tmps : Array Value) : results fn tmps = (do
    let vs ← fn.results.mapM (resSem tmps)
    pure (if h : vs.size = 1 then vs[0] else .tuple vs)) := rfl
section
variable {P : Program} {C : Ctx} {a : Act} {w : World} {σ : Sto} {ι : AHnd} {s : AS}
theorem res_run (R : Refs C σ ι s a w) : ∀ {l : List ResultVar} {rs : List RV} {vs : List AV}, trRes P C.n l = some rs → resAll s rs = some vs →
    ∃ xs : List Value, (l.mapM (resSem a.tmps)).run P w = .ok xs w ∧ All2 (VRep σ s.S ι) xs vs
  | [], rs, vs, h1, h2 => by
    simp only [trRes, Option.some.injEq] at h1
    subst h1
    simp only [resAll, Option.some.injEq] at h2
    subst h2
    exact ⟨[], by simp, .nil⟩
  | .tmp t :: l, rs, vs, h1, h2 => by
    simp only [trRes] at h1
    split at h1
    · rename_i r e1
      split at h1
      · rename_i hlt
        cases h1
        simp only [resAll, resOne] at h2
        split at h2
        · rename_i v vs' e2 e3
          cases h2
          cases e2
          obtain ⟨xs, k1, k2⟩ := res_run R e1 e3
          exact ⟨_ :: xs, by simp [List.mapM_cons, resSem, k1], .cons (R.env t hlt) k2⟩
        · cases h2
      · cases h1
    · cases h1
  | .cell t ty :: l, rs, vs, h1, h2 => by
    simp only [trRes] at h1
    split at h1
    · rename_i r g k e1 e4
      split at h1
      · rename_i hlt
        cases h1
        simp only [resAll] at h2
        split at h2
        · rename_i v vs' e2 e3
          cases h2
          obtain ⟨xs, k1, k2⟩ := res_run R e1 e3
          simp only [resOne] at e2
          split at e2
          · rename_i id m kk off e5
            split at e2
            · rename_i cs e6
              split at e2
              · rename_i hle
                cases e2
                have rt := R.env t hlt
                rw [e5] at rt
                obtain ⟨b, oo, hex, ys, v2, v3⟩ := R.ptr_cells (vrep_one rt) e6
                have hlen := v3.len
                obtain ⟨dd, i, q1, q2, q3, q4⟩ := sizeG_spec e4
                obtain ⟨v, r1, r2⟩ := run_loadAt (P := P) (w := w) (b := b) (o := oo + off) (cs := (ys.drop off).take k) q1 q2 (fun j v hj => by
                  rw [List.getElem?_take] at hj
                  split at hj
                  · rw [List.getElem?_drop] at hj
                    rw [Nat.add_assoc]
                    exact v2 _ _ hj
                  · cases hj) g q3 (by simp; omega)
                have r1' : (loadVar ty ⟨b, oo + off, none⟩).run P w = .ok v w := by
                  simpa [Instr.loadAt, Instr.sureAddr] using r1
                exact ⟨v :: xs, by simp [List.mapM_cons, resSem, hex, asAddr, r1', k1], .cons (vrep_pack ((v3.drop off).take k) r2) k2⟩
              · cases e2
            · cases e2
          · cases e2
        · cases h2
      · cases h1
    · cases h1
theorem res_pack {S : AStore} {fn : Func} {tmps : Array Value} {xs : List Value} {vs : List AV} (k1 : (fn.results.toList.mapM (resSem tmps)).run P w = .ok xs w) (k2 : All2 (VRep σ S ι) xs vs) : ∃ v, (results fn tmps).run P w = .ok v w ∧ VRep σ S ι v (tupV vs) := by
  have hl := k2.len
  have hrun : (results fn tmps).run P w = .ok (if h : xs.toArray.size = 1 then xs.toArray[0] else .tuple xs.toArray) w := by
    rw [results_eq, Array.mapM_eq_mapM_toList]
    simp [k1]
  refine ⟨_, hrun, ?_⟩
  match xs, vs, k2, hl with
  | [x], [v], k2, _ =>
    cases k2 with
    | cons k2 _ => simpa [tupV] using k2
  | [], [], k2, _ => simpa [tupV] using VRep.tup (σ := σ) (S := S) (ι := ι) (vs := #[]) (ps := []) (fun _ => undef) rfl (by simp) (by simp)
  | x :: y :: xs, v :: v' :: vs, k2, hl =>
    have ht : tupV (v :: v' :: vs) = .tup (v :: v' :: vs) := rfl
    rw [ht]
    have hne : ¬ (x :: y :: xs).toArray.size = 1 := by simp
    rw [dif_neg hne]
    refine .tup (fun j => ((x :: y :: xs)[j]?).getD undef) (by simpa using hl) (fun j b hb => ?_) (fun j b hb => ?_)
    · obtain ⟨a1, h1, _⟩ := k2.get hb
      rw [h1]
      simpa using h1
    · obtain ⟨a1, h1, h2⟩ := k2.get hb
      rw [h1]
      exact h2
theorem res_val (R : Refs C σ ι s a w) {fn : Func} {rs : List RV} {r : AV} (h1 : trRes P C.n fn.results.toList = some rs) (h2 : s.result rs = some r) : ∃ v, (results fn a.tmps).run P w = .ok v w ∧ VRep σ noS noH v r := by
  unfold AS.result at h2
  split at h2
  · rename_i vs e1
    obtain ⟨xs, k1, k2⟩ := res_run R h1 e1
    obtain ⟨v, v1, v2⟩ := res_pack (fn := fn) (tmps := a.tmps) k1 k2
    exact ⟨v, v1, R.outV v2 h2⟩
  · cases h2
end

/-- The state at a function's entry. -/
def AS.start (xs : List AV) : AS := ⟨fun i => (xs[i]?).getD (.tup []), noS⟩
/-- What a walk through a function's code ends with. -/
def FinQ (rs : List RV) (r : AV) (e : AX) (s : AS) : Prop := (match e with | .normal => True | .ret => True | _ => False) ∧ s.result rs = some r
theorem acalls_of {P : Program} {f : FuncId} {fn : Func} {mu : List Nat} {c : Code} {x : IR} {rs : List RV} {xs : List AV} {r : AV} (hf : P.funcs[f]? = some fn) (hb : fn.body = some c) (hx : trCode P fn.ntmps mu c = some x) (hr : trRes P fn.ntmps fn.results.toList = some rs) (hn : xs.length ≤ fn.ntmps)
    (h : ∀ C : Ctx, C.n = fn.ntmps → IWP P C mu x (FinQ rs r) (AS.start xs)) : ACalls P f xs r := by
  intro σ w vs hglob hfit hvs
  have hl := hvs.len
  let C : Ctx := ⟨fn.ntmps, w.heap.size, fun _ => False, σ, w, noS, noH, fun i b h => by simp [noS] at h, hglob⟩
  refine calls_of_wp hf hb ?_
  have R : Refs C σ noH (AS.start xs) { tmps := vs.toArray ++ Array.replicate (fn.ntmps - vs.toArray.size) undef, defers := [] } w := by
    refine ⟨by simp [C]; omega, fun i hi => ?_, rfl, hfit, fun id b h => by simp [AS.start, noS] at h, fun id id' b b' g h => by simp [AS.start, noS] at h, fun id b g h => by simp [AS.start, noS] at h, fun _ _ h => h, fun _ _ _ => rfl, ⟨rfl, rfl, rfl⟩, ⟨Nat.le_refl _, Nat.le_refl _⟩, fun _ _ _ => rfl, Upd.refl _ _⟩
    show VRep σ noS noH _ ((xs[i]?).getD (.tup []))
    rw [Array.getD_eq_getD_getElem?]
    by_cases hlt : i < vs.length
    · rw [Array.getElem?_append_left (by simpa using hlt)]
      obtain ⟨b, hb1, hb2⟩ := hvs.get' (List.getElem?_eq_getElem hlt)
      rw [hb1]
      simpa [hlt] using hb2
    · rw [Array.getElem?_append_right (by simp; omega), List.getElem?_eq_none (by omega)]
      have hi' : i < fn.ntmps := hi
      rw [Array.getElem?_replicate, if_pos (by simp; omega)]
      exact .tup (fun _ => undef) rfl (by simp) (by simp)
  refine wp_mono (h C rfl c hx _ w ⟨σ, noH, R⟩) fun e a' w' he => ?_
  have fin : ∀ s, s.result rs = some r → Holds C s a' w' → a'.defers = [] ∧ ∃ v, (results fn a'.tmps).run P w' = .ok v w' ∧ ∃ v1 σ', Ending.returned v = .returned v1 ∧ VRep σ' noS noH v1 r ∧ Fit σ' w' ∧ Ext w.heap.size σ σ' ∧ Below w.heap.size w w' := fun s hs hH => by
    obtain ⟨σ', ι', R'⟩ := hH
    obtain ⟨v, v1, v2⟩ := res_val R' (fn := fn) hr hs
    exact ⟨R'.nod, v, v1, v, σ', rfl, v2, R'.fit, ⟨R'.ext, fun p hp => R'.old p hp (fun h => h)⟩, ⟨R'.os.1, R'.os.2.1, R'.os.2.2, R'.grown.2, fun k hk => R'.same k hk (fun h => h)⟩⟩
  cases e with
  | normal => obtain ⟨s, h1, h2⟩ := he; exact fin s h1.2 h2
  | ret => obtain ⟨s, h1, h2⟩ := he; exact fin s h1.2 h2
  | exit id => obtain ⟨s, h1, h2⟩ := he; exact h1.1.elim
  | _ => exact he.elim

/-- What a walk ends with where the call has turned blocks of its caller. -/
def FinS (C : Ctx) (rs : List RV) (r : AV) (S' : AStore) (e : AX) (s : AS) : Prop := (match e with | .normal => True | .ret => True | _ => False) ∧ ∃ s2 s3 r0, Ghost C s s2 ∧ (resAll s2 rs).map tupV = some r0 ∧ (∀ σ ι a w, Refs C σ ι s2 a w → ∃ σ' ι', Refs C σ' ι' s3 a w ∧ ∀ v, VRep σ s2.S ι v r0 → VRep σ' s3.S ι' v r) ∧ s3.S = S' ∧ Clean S'
theorem finS_at {C : Ctx} {rs : List RV} {r : AV} {S' : AStore} {e : AX} {s : AS} (he : match e with | .normal => True | .ret => True | _ => False) (h : ∃ s2, Ghost C s s2 ∧ (resAll s2 rs).map tupV = some r ∧ s2.S = S' ∧ Clean S') : FinS C rs r S' e s := by
  obtain ⟨s2, h1, h2, h3, h4⟩ := h
  exact ⟨he, s2, s2, r, h1, h2, fun σ ι a w R => ⟨σ, ι, R, fun _ h => h⟩, h3, h4⟩
def AS.startS (xs : List AV) (S : AStore) : AS := ⟨fun i => (xs[i]?).getD (.tup []), S⟩
theorem acallsS_of {P : Program} {f : FuncId} {fn : Func} {mu : List Nat} {c : Code} {x : IR} {rs : List RV} {xs : List AV} {S : AStore} {r : AV} {S' : AStore} (hf : P.funcs[f]? = some fn) (hb : fn.body = some c) (hx : trCode P fn.ntmps mu c = some x) (hr : trRes P fn.ntmps fn.results.toList = some rs) (hn : xs.length ≤ fn.ntmps)
    (h : Clean S → ∀ C : Ctx, C.n = fn.ntmps → IWP P C mu x (FinS C rs r S') (AS.startS xs S)) : ACallsS P f xs S r S' := by
  intro hclean σ w vs ι hglob hfit hown hvs
  have hl := hvs.len
  let C : Ctx := ⟨fn.ntmps, w.heap.size, fun g => ¬ notOf S ι g, σ, w, S, ι, hclean, hglob⟩
  refine calls_of_wp hf hb ?_
  have R : Refs C σ ι (AS.startS xs S) { tmps := vs.toArray ++ Array.replicate (fn.ntmps - vs.toArray.size) undef, defers := [] } w := by
    refine ⟨by simp [C]; omega, fun i hi => ?_, rfl, hfit, hown.1, hown.2, fun id b g h hg => .inr (fun hno => hno id b h hg), fun _ _ h => h, fun _ _ _ => rfl, ⟨rfl, rfl, rfl⟩, ⟨Nat.le_refl _, Nat.le_refl _⟩, fun _ _ _ => rfl, Upd.refl _ _⟩
    show VRep σ S ι _ ((xs[i]?).getD (.tup []))
    rw [Array.getD_eq_getD_getElem?]
    by_cases hlt : i < vs.length
    · rw [Array.getElem?_append_left (by simpa using hlt)]
      obtain ⟨b, hb1, hb2⟩ := hvs.get' (List.getElem?_eq_getElem hlt)
      rw [hb1]
      simpa [hlt] using hb2
    · rw [Array.getElem?_append_right (by simp; omega), List.getElem?_eq_none (by omega)]
      have hi' : i < fn.ntmps := hi
      rw [Array.getElem?_replicate, if_pos (by simp; omega)]
      exact .tup (fun _ => undef) rfl (by simp) (by simp)
  refine wp_mono (h hclean C rfl c hx _ w ⟨σ, ι, R⟩) fun e a' w' he => ?_
  have fin : ∀ s, (∃ s2 s3 r0, Ghost C s s2 ∧ (resAll s2 rs).map tupV = some r0 ∧ (∀ σ ι a w, Refs C σ ι s2 a w → ∃ σ' ι', Refs C σ' ι' s3 a w ∧ ∀ v, VRep σ s2.S ι v r0 → VRep σ' s3.S ι' v r) ∧ s3.S = S' ∧ Clean S') → Holds C s a' w' → a'.defers = [] ∧ ∃ v, (results fn a'.tmps).run P w' = .ok v w' ∧ ∃ v1 σ' ι', Ending.returned v = .returned v1 ∧ Clean S' ∧ Upd S ι S' ι' ∧ Owned σ' S' ι' w' ∧ VRep σ' S' ι' v1 r ∧ Fit σ' w' ∧ (∀ p x, σ p = some x → σ' p = some x) ∧
      (∀ p : Addr, p.block < w.heap.size → notOf S ι p.block → σ' p = σ p) ∧ (w'.os = w.os ∧ w'.tape = w.tape ∧ w'.output = w.output) ∧ w.heap.size ≤ w'.heap.size ∧
      (∀ g, g < w.heap.size → notOf S ι g → w'.heap[g]? = w.heap[g]?) ∧ (∀ id b g, S' id = some b → (ι' id).g = some g → w.heap.size ≤ g ∨ ¬ notOf S ι g) := fun s ⟨s2, s3, r0, hg, hres, hlow, hS, hc⟩ hH => by
    obtain ⟨σ2, ι2, R2⟩ := hg _ _ hH
    subst hS
    rw [Option.map_eq_some_iff] at hres
    obtain ⟨vs2, e1, rfl⟩ := hres
    obtain ⟨xs2, k1, k2⟩ := res_run R2 hr e1
    obtain ⟨v, v1, v20⟩ := res_pack (fn := fn) (tmps := a'.tmps) k1 k2
    obtain ⟨σ', ι', R', hv'⟩ := hlow _ _ _ _ R2
    have v2 := hv' v v20
    exact ⟨R'.nod, v, v1, v, σ', ι', rfl, hc, R'.upd, ⟨R'.blk, R'.inj⟩, v2, R'.fit, R'.ext, fun p h1 h2 => R'.old p h1 (fun h => h h2), R'.os, R'.grown.2, fun g h1 h2 => R'.same g h1 (fun h => h h2), fun id b g h1 h2 => R'.base id b g h1 h2⟩
  cases e with
  | normal => obtain ⟨s, h1, h2⟩ := he; exact fin s h1.2 h2
  | ret => obtain ⟨s, h1, h2⟩ := he; exact fin s h1.2 h2
  | exit id => obtain ⟨s, h1, h2⟩ := he; exact h1.1.elim
  | _ => exact he.elim
end Go.Proofs.YtbiadmlfejnbcaaGreatDoor

namespace Go.Proofs.YtbiadmlfejnbcaaGreatDoor
open Go Go.RowKit
set_option linter.unusedVariables false
set_option linter.unusedSimpArgs false
set_option maxHeartbeats 400000

mutual
/-- It names none of the blocks ds. -/
def AC.clear (ds : List Nat) : AC → Bool
  | .row id _ => !ds.contains id
  | .ptr id _ _ _ => !ds.contains id
  | .fn _ caps => AC.clears ds caps
  | .st _ => true
  | .full _ => true
  | .eptr _ => true
  | .any => true
def AC.clears (ds : List Nat) : List AC → Bool
  | [] => true
  | c :: cs => c.clear ds && AC.clears ds cs
end
theorem clears_mem {ds : List Nat} : ∀ {l : List AC}, AC.clears ds l = true → ∀ a ∈ l, a.clear ds = true
  | [], _, a, ha => by simp at ha
  | x :: xs, hx, a, ha => by
    rw [AC.clears, Bool.and_eq_true] at hx
    rcases List.mem_cons.1 ha with rfl | ha
    · exact hx.1
    · exact clears_mem hx.2 a ha
def AC.purge (ds : List Nat) : AC → AC
  | .row id n => if ds.contains id then .any else .row id n
  | .ptr id n k off => if ds.contains id then .any else .ptr id n k off
  | .fn f caps => if AC.clears ds caps then .fn f caps else .any
  | c => c
mutual
def AV.purge (ds : List Nat) : AV → AV
  | .one c => .one (c.purge ds)
  | .agg cs => .agg (cs.map (AC.purge ds))
  | .tup vs => .tup (AV.purges ds vs)
  | .any => .any
def AV.purges (ds : List Nat) : List AV → List AV
  | [] => []
  | v :: vs => v.purge ds :: AV.purges ds vs
end
def ABlk.purge (ds : List Nat) : ABlk → ABlk
  | .box e cs => .box e (cs.map (AC.purge ds))
  | b => b
/-- The blocks ds are forgotten. -/
def dropS (ds : List Nat) (S : AStore) : AStore := fun id => if ds.contains id then none else (S id).map (ABlk.purge ds)
def AS.drop (ds : List Nat) (s : AS) : AS := ⟨fun i => (s.env i).purge ds, dropS ds s.S⟩
theorem highs_mem : ∀ {l : List AC}, AC.highs l = true → ∀ a ∈ l, a.high = true
  | [], _, a, ha => by simp at ha
  | x :: xs, hx, a, ha => by
    rw [AC.highs, Bool.and_eq_true] at hx
    rcases List.mem_cons.1 ha with rfl | ha
    · exact hx.1
    · exact highs_mem hx.2 a ha
theorem not_ds {ds : List Nat} (hds : ∀ d ∈ ds, d < 1000) {id : Nat} (h : 1000 ≤ id) : ds.contains id = false := by
  cases hc : ds.contains id with
  | false => rfl
  | true =>
    have := hds id (List.contains_iff_mem.1 hc)
    omega
mutual
theorem AC.clear_high {ds : List Nat} (hds : ∀ d ∈ ds, d < 1000) : ∀ {c : AC}, c.high = true → c.clear ds = true
  | .st _, _ => rfl
  | .full _, _ => rfl
  | .row id n, h => by
    rw [AC.high] at h
    rw [AC.clear, not_ds hds (of_decide_eq_true h)]
    rfl
  | .ptr id n k off, h => by
    rw [AC.high] at h
    rw [AC.clear, not_ds hds (of_decide_eq_true h)]
    rfl
  | .eptr _, _ => rfl
  | .fn f caps, h => by
    rw [AC.high] at h
    rw [AC.clear]
    exact AC.clears_highs hds h
  | .any, _ => rfl
theorem AC.clears_highs {ds : List Nat} (hds : ∀ d ∈ ds, d < 1000) : ∀ {cs : List AC}, AC.highs cs = true → AC.clears ds cs = true
  | [], _ => rfl
  | c :: cs, h => by
    rw [AC.highs, Bool.and_eq_true] at h
    rw [AC.clears, AC.clear_high hds h.1, AC.clears_highs hds h.2]
    rfl
end
theorem AC.purge_high {ds : List Nat} (hds : ∀ d ∈ ds, d < 1000) : ∀ {c : AC}, c.high = true → c.purge ds = c
  | .st _, _ => rfl
  | .full _, _ => rfl
  | .row id n, h => by
    rw [AC.high] at h
    simp only [AC.purge, not_ds hds (of_decide_eq_true h), Bool.false_eq_true, if_false]
  | .ptr id n k off, h => by
    rw [AC.high] at h
    simp only [AC.purge, not_ds hds (of_decide_eq_true h), Bool.false_eq_true, if_false]
  | .eptr _, _ => rfl
  | .fn f caps, h => by
    rw [AC.high] at h
    simp only [AC.purge, AC.clears_highs hds h, if_true]
  | .any, _ => rfl
theorem ABlk.purge_high {ds : List Nat} (hds : ∀ d ∈ ds, d < 1000) {b : ABlk} (h : b.high = true) : b.purge ds = b := by
  cases b with
  | box e cs =>
    rw [ABlk.high] at h
    simp only [ABlk.purge]
    congr 1
    exact (List.map_congr_left fun a ha => AC.purge_high hds (highs_mem h a ha)).trans (List.map_id _)
  | arow => rfl
  | mrow => rfl
theorem dropS_clean {ds : List Nat} (hds : ∀ d ∈ ds, d < 1000) {S : AStore} (h : Clean S) : dropS ds S = S := by
  funext id
  unfold dropS
  cases hb : S id with
  | none => split <;> rfl
  | some b =>
    obtain ⟨h1, h2⟩ := h id b hb
    rw [not_ds hds h1, if_neg (by simp), Option.map_some, ABlk.purge_high hds h2]
theorem dropS_in {ds : List Nat} {S : AStore} {i : Nat} {b : Option ABlk} (h : ds.contains i = true) : dropS ds (updE S i b) = dropS ds S := by
  funext k
  unfold dropS
  by_cases e : k = i
  · subst e
    rw [if_pos h, if_pos h]
  · rw [updE_ne _ e]
theorem dropS_out {ds : List Nat} {S : AStore} {i : Nat} {b : ABlk} (h : ds.contains i = false) : dropS ds (updE S i (some b)) = updE (dropS ds S) i (some (b.purge ds)) := by
  funext k
  unfold dropS
  by_cases e : k = i
  · subst e
    rw [updE_same, updE_same, if_neg (by rw [h]; simp)]
    rfl
  · rw [updE_ne _ e, updE_ne _ e]

section
variable {C : Ctx} {σ : Sto} {ι : AHnd} {s : AS} {a : Act} {w : World} {ds : List Nat}
theorem purge_len (b : ABlk) : (b.purge ds).len = b.len := by cases b <;> rfl
theorem purge_wid (b : ABlk) : (b.purge ds).wid = b.wid := by cases b <;> rfl
theorem ARep.keepHigh {S S2 : AStore} (hS : ∀ id b, 1000 ≤ id → S id = some b → ∃ b', S2 id = some b' ∧ b'.len = b.len ∧ b'.wid = b.wid) {v : Value} {c : AC} (h : ARep σ S ι v c) (hc : c.high = true) : ARep σ S2 ι v c := by
  induction h with
  | st h => exact .st h
  | full h => exact .full h
  | row h1 h2 h3 h4 =>
    rw [AC.high] at hc
    obtain ⟨b', q1, q2, q3⟩ := hS _ _ (of_decide_eq_true hc) h1
    exact .row q1 (by rw [q2]; exact h2) h3 (by rw [q2]; exact h4)
  | ptr h1 h2 h3 h4 =>
    rw [AC.high] at hc
    obtain ⟨b', q1, q2, q3⟩ := hS _ _ (of_decide_eq_true hc) h1
    exact .ptr q1 (by rw [q2]; exact h2) h3 (by rw [q2, q3]; exact h4)
  | eptr c h1 h2 => exact .eptr c h1 h2
  | fn c h1 h2 h3 ih =>
    rw [AC.high] at hc
    exact .fn c h1 h2 (fun j a ha => ih j a ha (highs_mem hc a (List.mem_of_getElem? ha)))
  | any h => exact .any h
theorem ARep.keepClear {ds : List Nat} {S S2 : AStore} (hS : ∀ id b, ds.contains id = false → S id = some b → ∃ b', S2 id = some b' ∧ b'.len = b.len ∧ b'.wid = b.wid) {v : Value} {c : AC} (h : ARep σ S ι v c) (hc : c.clear ds = true) : ARep σ S2 ι v c := by
  induction h with
  | st h => exact .st h
  | full h => exact .full h
  | row h1 h2 h3 h4 =>
    rw [AC.clear] at hc
    obtain ⟨b', q1, q2, q3⟩ := hS _ _ (by simpa using hc) h1
    exact .row q1 (by rw [q2]; exact h2) h3 (by rw [q2]; exact h4)
  | ptr h1 h2 h3 h4 =>
    rw [AC.clear] at hc
    obtain ⟨b', q1, q2, q3⟩ := hS _ _ (by simpa using hc) h1
    exact .ptr q1 (by rw [q2]; exact h2) h3 (by rw [q2, q3]; exact h4)
  | eptr c h1 h2 => exact .eptr c h1 h2
  | fn c h1 h2 h3 ih =>
    rw [AC.clear] at hc
    exact .fn c h1 h2 (fun j a ha => ih j a ha (clears_mem hc a (List.mem_of_getElem? ha)))
  | any h => exact .any h
theorem drop_keeps (hds : ∀ d ∈ ds, d < 1000) (S : AStore) : ∀ id b, 1000 ≤ id → S id = some b → ∃ b', dropS ds S id = some b' ∧ b'.len = b.len ∧ b'.wid = b.wid := fun id b hid hb =>
  ⟨b.purge ds, by unfold dropS; rw [not_ds hds hid, if_neg (by simp), hb]; rfl, purge_len b, purge_wid b⟩
theorem ARep.purge (hds : ∀ d ∈ ds, d < 1000) {v : Value} {c : AC} (h : ARep σ s.S ι v c) : ARep σ (s.drop ds).S ι v (c.purge ds) := by
  have h0 := h
  cases h with
  | st h => exact .st h
  | full h => exact .full h
  | @row _ id n b h1 h2 h3 h4 =>
    simp only [AC.purge]
    split
    · exact .any h3
    · rename_i hn
      exact .row (b := b.purge ds) (by simp only [AS.drop, dropS, hn]; rw [h1]; rfl) (by rw [purge_len]; exact h2) h3 (by rw [purge_len]; exact h4)
  | @ptr _ id n k off b h1 h2 h3 h4 =>
    simp only [AC.purge]
    split
    · exact .any h3
    · rename_i hn
      exact .ptr (b := b.purge ds) (by simp only [AS.drop, dropS, hn]; rw [h1]; rfl) (by rw [purge_len]; exact h2) h3 (by rw [purge_len, purge_wid]; exact h4)
  | eptr c h1 h2 => exact .eptr c h1 h2
  | @fn f vs caps c h1 h2 h3 =>
    simp only [AC.purge]
    split
    · rename_i hh
      exact h0.keepClear (ds := ds) (fun id b hid hb => ⟨b.purge ds, by
        show dropS ds s.S id = _
        unfold dropS
        rw [hid, hb]
        rfl, purge_len b, purge_wid b⟩) (by rw [AC.clear]; exact hh)
    · exact .any rfl
  | any h => exact .any h
mutual
theorem VRep.purge (hds : ∀ d ∈ ds, d < 1000) : ∀ {v : Value} {c : AV}, VRep σ s.S ι v c → VRep σ (s.drop ds).S ι v (c.purge ds)
  | v, .one c, h => by cases h with | one h => exact .one (h.purge hds)
  | v, .agg cs, h => by cases h with | agg h => exact .agg ((h.mono fun _ _ x => x.purge hds).map_right)
  | v, .tup vs, h => by
    cases h with
    | tup c h1 h2 h3 =>
      obtain ⟨k1, k2⟩ := VRep.purges hds (c := c) h3
      exact .tup c (by rw [h1, k1]) (fun j b hb => by
        rcases Nat.lt_or_ge j vs.length with hj | hj
        · exact h2 j _ (List.getElem?_eq_getElem hj)
        · rw [List.getElem?_eq_none (by omega)] at hb; cases hb) k2
  | v, .any, h => .any
theorem VRep.purges (hds : ∀ d ∈ ds, d < 1000) : ∀ {vs : List AV} {c : Nat → Value}, (∀ j b, vs[j]? = some b → VRep σ s.S ι (c j) b) → vs.length = (AV.purges ds vs).length ∧ ∀ j b, (AV.purges ds vs)[j]? = some b → VRep σ (s.drop ds).S ι (c j) b
  | [], c, h => by simp [AV.purges]
  | x :: xs, c, h => by
    obtain ⟨m1, m2⟩ := VRep.purges hds (vs := xs) (c := fun j => c (j + 1)) (fun j b hb => h (j + 1) b (by simpa using hb))
    refine ⟨by simp [AV.purges, ← m1], fun j b hb => ?_⟩
    cases j with
    | zero =>
      simp [AV.purges] at hb
      subst hb
      exact VRep.purge hds (h 0 x rfl)
    | succ j => exact m2 j b (by simpa [AV.purges] using hb)
end
theorem BRep.purge (hds : ∀ d ∈ ds, d < 1000) {h : Hnd} {b : ABlk} (hr : BRep σ s.S ι w h b) : BRep σ (s.drop ds).S ι w h (b.purge ds) := by
  cases hr with
  | box h1 h2 h3 h4 h5 => exact .box h1 h2 h3 ((h4.mono fun _ _ x => x.purge hds).map_right) h5
  | afull h1 h2 h3 h4 => exact .afull h1 h2 h3 h4
  | arow h1 h2 h3 h4 h5 h6 h7 h8 h9 => exact .arow h1 h2 h3 h4 h5 h6 h7 h8 h9
  | mnil h1 h2 => exact .mnil h1 h2
  | mrow h1 h2 h3 h4 h5 h6 h7 h8 h9 => exact .mrow h1 h2 h3 h4 h5 h6 h7 h8 h9
theorem drop_some {id : Nat} {b : ABlk} (h : (s.drop ds).S id = some b) : ∃ b', s.S id = some b' ∧ b = b'.purge ds := by
  simp only [AS.drop, dropS] at h
  split at h
  · cases h
  · rw [Option.map_eq_some_iff] at h
    obtain ⟨b', h1, h2⟩ := h
    exact ⟨b', h1, h2.symm⟩
theorem Ghost.drop (ds : List Nat) (s : AS) (hds : ∀ d ∈ ds, d < 1000) : Ghost C s (s.drop ds) := fun a w ⟨σ, ι, R⟩ => by
  refine ⟨σ, ι, R.size, fun i hi => (R.env i hi).purge hds, R.nod, R.fit, fun id b h => ?_, fun id id' b b' g h1 h2 g1 g2 => ?_, fun id b g h hg => ?_, R.ext, R.old, R.os, R.grown, R.same, fun id b hb => ?_⟩
  · obtain ⟨b', h1, rfl⟩ := drop_some h
    exact (R.blk id b' h1).purge hds
  · obtain ⟨c1, k1, _⟩ := drop_some h1
    obtain ⟨c2, k2, _⟩ := drop_some h2
    exact R.inj _ _ _ _ _ k1 k2 g1 g2
  · obtain ⟨c1, k1, _⟩ := drop_some h
    exact R.base _ _ _ k1 hg
  · obtain ⟨b', h1, h2, h3⟩ := R.upd id b hb
    have hid := (C.clean id b hb).1
    have hnc : ds.contains id = false := by
      cases hc : ds.contains id with
      | false => rfl
      | true =>
        have := hds id (List.contains_iff_mem.1 hc)
        omega
    refine ⟨b'.purge ds, by simp only [AS.drop, dropS, hnc]; rw [h1]; rfl, by rw [purge_len]; exact h2, fun hl => ?_⟩
    rw [purge_len] at hl
    rw [purge_wid]
    exact h3 hl
/-- A written row is written no more: its things stay from now on. -/
theorem Ghost.share {id : Nat} {e : TypeId} {wd : Nat} {xs : List (List SV)} (hS : s.S id = some (.mrow e wd xs)) : Ghost C s (s.set id (.arow e wd xs)) := fun a w ⟨σ, ι, R⟩ => by
  have hb := R.blk _ _ hS
  have hι : updE ι id (ι id) = ι := by
    funext k
    unfold updE
    split
    · rename_i h; rw [h]
    · rfl
  cases hb with
  | mnil h1 h2 =>
    obtain ⟨hu, R'⟩ := R.turn (w' := w) hS (.arow e wd []) (ι id) (σ' := σ) (fun _ _ h => h) (fun _ _ _ => rfl) R.fit (Nat.le_refl _) (fun _ => ⟨rfl, rfl⟩) ⟨rfl, rfl, rfl⟩ (Nat.le_refl _) (fun _ _ _ => rfl) (fun g h => .inl h) (fun hu => .afull h1 (by simpa using h2) (by simp) (.list (b := 0) (o := 0) (w := 0) (fun _ _ => undef) rfl (by simp) (by rw [h2]; simp [maxLen]) (fun _ => h2) (by simp) (by simp) (by simp) (by simp)))
    exact ⟨σ, _, R'⟩
  | @mrow _ _ _ g vs h1 h2 h3 h4 h5 h6 h7 h8 h9 =>
    have hl : Laid σ vs.toList wd xs := ⟨h7, fun k x j y hx hy => by simpa using h8 k x j y hx hy⟩
    have hkeep := layS_keep (σ := σ) (w' := w) (g := g) (k := xs.length * wd) (fun j x hx => by rw [h9 _ rfl] at hx; cases hx)
    obtain ⟨hu, R'⟩ := R.turn (w' := w) hS (.arow e wd xs) (ι id) (σ' := layS σ w g (xs.length * wd)) hkeep (fun p hp _ => layS_out (fun e => hp (by rw [e]; exact h1))) (layS_fit R.fit) (Nat.le_refl _) (fun _ => ⟨rfl, rfl⟩) ⟨rfl, rfl, rfl⟩ (Nat.le_refl _) (fun _ _ _ => rfl) (fun g h => .inl h)
      (fun hu => by
        have := brep_arow (S' := (s.set id (.arow e wd xs)).S) (ι' := updE ι id (ι id)) (w' := w) (p := (ι id).p) h2 h3 h4 h5 h6 hl hkeep (fun p hp hne => absurd (h9 p hp) hne)
        rw [← h1] at this
        exact this)
    exact ⟨_, _, R'⟩
/-- A slice without spare room, as a row of the call's own. -/
theorem Ghost.own (t id : Nat) (e : TypeId) (wd : Nat) {xs : List (List SV)} (ht : s.env t = .one (.full xs)) (hid : s.S id = none) (hw : ∀ x ∈ xs, x.length = wd) (hn : t < C.n) : Ghost C s ⟨updE s.env t (.one (.row id xs.length)), updE s.S id (some (.arow e wd xs))⟩ := fun a w ⟨σ, ι, R⟩ => by
  have rt := R.env t hn
  rw [ht] at rt
  generalize hv : a.tmps.getD t undef = v at rt
  cases vrep_one rt with
  | @full p len xs hs =>
    have hl : len = xs.length := by
      obtain ⟨p', cap', e1, _⟩ := srep_slice hs
      cases e1
      rfl
    subst hl
    obtain ⟨hu, R'⟩ := R.fresh (w' := w) hid (.arow e wd xs) ⟨p, xs.length, none⟩ (Ext.refl _ _) R.fit (Below.refl _ _) (by simp) (fun S' ι' hu => .afull rfl rfl hw hs)
    refine ⟨σ, _, R'.size, fun i hi => ?_, R'.nod, R'.fit, R'.blk, R'.inj, R'.base, R'.ext, R'.old, R'.os, R'.grown, R'.same, R'.upd⟩
    show VRep σ (s.set id (.arow e wd xs)).S _ _ (updE s.env t _ i)
    unfold updE
    split
    · rename_i e1
      subst e1
      rw [hv]
      exact .one (.row (b := .arow e wd xs) (by simp [AS.set, updE_same]) (Nat.le_refl _) rfl fun _ => by simp [updE])
    · exact R'.env i hi
/-- The same of a slice that stands in a box. -/
theorem Ghost.ownC (id j nid : Nat) (e : TypeId) (wd : Nat) {xs : List (List SV)} {ty : TypeId} {cs : List AC} (hb : s.S id = some (.box ty cs)) (hc : cs[j]? = some (.full xs)) (hn : s.S nid = none) (hw : ∀ x ∈ xs, x.length = wd) :
    Ghost C s ((s.set nid (.arow e wd xs)).set id (.box ty (cs.set j (.row nid xs.length)))) := fun a w ⟨σ, ι, R⟩ => by
  have hbk := R.blk id _ hb
  have hne : id ≠ nid := fun e => by subst e; rw [hb] at hn; cases hn
  cases hbk with
  | @box _ _ g vs h1 h2 h3 h4 h5 =>
    obtain ⟨v, hv, hr⟩ := h4.get hc
    cases hr with
    | @full p len xs hs =>
      have hl : len = xs.length := by
        obtain ⟨p', cap', e1, _⟩ := srep_slice hs
        cases e1
        rfl
      subst hl
      obtain ⟨hu, R'⟩ := R.fresh (w' := w) hn (.arow e wd xs) ⟨p, xs.length, none⟩ (Ext.refl _ _) R.fit (Below.refl _ _) (by simp) (fun S' ι' hu => .afull rfl rfl hw hs)
      have hb' : (s.set nid (.arow e wd xs)).S id = some (.box ty cs) := by simp [AS.set, updE_ne _ hne, hb]
      have hι : updE ι nid ⟨p, xs.length, none⟩ id = ι id := updE_ne _ hne _
      obtain ⟨hu2, R2⟩ := R'.turn (w' := w) hb' (.box ty (cs.set j (.row nid xs.length))) (updE ι nid ⟨p, xs.length, none⟩ id) (σ' := σ) (fun _ _ h => h) (fun _ _ _ => rfl) R.fit (Nat.le_refl _) (fun _ => ⟨by simp [ABlk.wid], rfl⟩) ⟨rfl, rfl, rfl⟩ (Nat.le_refl _) (fun _ _ _ => rfl) (fun g h => .inl h) (fun hu2 => by
        refine .box (by rw [hι]; exact h1) (by rw [hι]; exact h2) h3 (All2.of_get (by rw [List.length_set]; exact h4.len) fun k u c hu' hck => ?_) h5
        by_cases hk : k = j
        · subst hk
          rw [hv] at hu'
          cases hu'
          have hlt : k < cs.length := (List.getElem?_eq_some_iff.1 hc).1
          rw [List.getElem?_set_self hlt] at hck
          cases hck
          exact .row (b := .arow e wd xs) (by simp [AS.set, updE, hne.symm]) (Nat.le_refl _) rfl fun _ => by simp [updE, hne.symm]
        · rw [List.getElem?_set_ne (fun e => hk e.symm)] at hck
          obtain ⟨u', q1, q2⟩ := h4.get hck
          rw [hu'] at q1
          cases q1
          exact (q2.mono (fun _ _ h => h) hu).mono (fun _ _ h => h) hu2)
      exact ⟨_, _, R2⟩
theorem noS_upd {v : Value} {c : AV} (h : VRep σ noS noH v c) : VRep σ s.S ι v c := h.mono (fun _ _ h => h) (upd_noS _ _)
/-- A slot's value, as a callee would have it. -/
theorem Ghost.settle (t : Nat) {v : AV} (h : outV s.S (s.env t) = some v) : Ghost C s ⟨updE s.env t v, s.S⟩ := fun a w ⟨σ, ι, R⟩ => by
  refine ⟨σ, ι, R.size, fun i hi => ?_, R.nod, R.fit, R.blk, R.inj, R.base, R.ext, R.old, R.os, R.grown, R.same, R.upd⟩
  show VRep σ s.S ι _ (updE s.env t v i)
  unfold updE
  split
  · rename_i e
    subst e
    exact noS_upd (R.outV (R.env i hi) h)
  · exact R.env i hi
/-- The call's own blocks are forgotten at its end. -/
def AV.low (v : AV) : AV := if v.high then v else .any
theorem ARep.low {σ : Sto} {S S2 : AStore} {ι : AHnd} (hS : ∀ i b, 1000 ≤ i → S i = some b → S2 i = some b) {v : Value} {c : AC} (h : ARep σ S ι v c) (hc : c.high = true) : ARep σ S2 ι v c := by
  induction h with
  | st h => exact .st h
  | full h => exact .full h
  | row h1 h2 h3 h4 => exact .row (hS _ _ (by rw [AC.high] at hc; exact of_decide_eq_true hc) h1) h2 h3 h4
  | ptr h1 h2 h3 h4 => exact .ptr (hS _ _ (by rw [AC.high] at hc; exact of_decide_eq_true hc) h1) h2 h3 h4
  | eptr c h1 h2 => exact .eptr c h1 h2
  | @fn f vs caps c h1 h2 h3 ih =>
    have key : ∀ (l : List AC), AC.highs l = true → ∀ a ∈ l, a.high = true := by
      intro l
      induction l with
      | nil => simp
      | cons x xs ih2 =>
        intro hx a ha
        rw [AC.highs, Bool.and_eq_true] at hx
        rcases List.mem_cons.1 ha with rfl | ha
        · exact hx.1
        · exact ih2 hx.2 a ha
    rw [AC.high] at hc
    exact .fn c h1 h2 (fun j a ha => ih j a ha (key _ hc a (List.mem_of_getElem? ha)))
  | any h => exact .any h
theorem all2_low {S S2 : AStore} (hS : ∀ i b, 1000 ≤ i → S i = some b → S2 i = some b) {vs : List Value} {cs : List AC} (h : All2 (ARep σ S ι) vs cs) (hc : AC.highs cs = true) : All2 (ARep σ S2 ι) vs cs :=
  All2.of_get h.len fun j v c hv hcj => by
    obtain ⟨v', h1, h2⟩ := h.get hcj
    rw [hv] at h1
    cases h1
    exact h2.low hS (highs_mem hc c (List.mem_of_getElem? hcj))
mutual
theorem VRep.low {S S2 : AStore} (hS : ∀ i b, 1000 ≤ i → S i = some b → S2 i = some b) : ∀ {v : Value} {c : AV}, VRep σ S ι v c → c.high = true → VRep σ S2 ι v c
  | v, .one c, h, hc => by cases h with | one h => exact .one (h.low hS (by rw [AV.high] at hc; exact hc))
  | v, .agg cs, h, hc => by cases h with | agg h => exact .agg (all2_low hS h (by rw [AV.high] at hc; exact hc))
  | v, .tup vs, h, hc => by
    cases h with
    | tup c h1 h2 h3 => exact .tup c h1 h2 (VRep.lows hS h3 (by rw [AV.high] at hc; exact hc))
  | v, .any, h, _ => .any
theorem VRep.lows {S S2 : AStore} (hS : ∀ i b, 1000 ≤ i → S i = some b → S2 i = some b) : ∀ {vs : List AV} {c : Nat → Value}, (∀ j b, vs[j]? = some b → VRep σ S ι (c j) b) → AV.highs vs = true → ∀ j b, vs[j]? = some b → VRep σ S2 ι (c j) b
  | [], c, h, _, j, b, hb => by simp at hb
  | x :: xs, c, h, hc, j, b, hb => by
    rw [AV.highs, Bool.and_eq_true] at hc
    cases j with
    | zero =>
      simp at hb
      subst hb
      exact VRep.low hS (h 0 x rfl) hc.1
    | succ j => exact VRep.lows hS (vs := xs) (c := fun j => c (j + 1)) (fun j b hb => h (j + 1) b (by simpa using hb)) hc.2 j b (by simpa using hb)
end
theorem Refs.low (R : Refs C σ ι s a w) (hb : ∀ i b, 1000 ≤ i → s.S i = some b → b.high = true) : Refs C σ ι ⟨fun i => (s.env i).low, lowS s.S⟩ a w := by
  have hS : ∀ i b, 1000 ≤ i → s.S i = some b → lowS s.S i = some b := fun i b hi h => by
    show (if i < 1000 then none else s.S i) = some b
    rw [if_neg (by omega), h]
  have hinv : ∀ i b, lowS s.S i = some b → 1000 ≤ i ∧ s.S i = some b := fun i b h => by
    have h' : (if i < 1000 then none else s.S i) = some b := h
    split at h'
    · cases h'
    · exact ⟨by omega, h'⟩
  refine ⟨R.size, fun i hi => ?_, R.nod, R.fit, fun id b h => ?_, fun id id' b b' g h1 h2 g1 g2 => R.inj _ _ _ _ g (hinv _ _ h1).2 (hinv _ _ h2).2 g1 g2, fun id b g h hg => R.base _ _ g (hinv _ _ h).2 hg, R.ext, R.old, R.os, R.grown, R.same, fun id b h => ?_⟩
  · show VRep σ (lowS s.S) ι _ ((s.env i).low)
    unfold AV.low
    split
    · rename_i hh
      exact (R.env i hi).low hS hh
    · exact .any
  · obtain ⟨h1, h2⟩ := hinv _ _ h
    have hh := hb id b h1 h2
    cases R.blk id b h2 with
    | box k1 k2 k3 k4 k5 => exact .box k1 k2 k3 (all2_low hS k4 hh) k5
    | afull k1 k2 k3 k4 => exact .afull k1 k2 k3 k4
    | arow k1 k2 k3 k4 k5 k6 k7 k8 k9 => exact .arow k1 k2 k3 k4 k5 k6 k7 k8 k9
    | mnil k1 k2 => exact .mnil k1 k2
    | mrow k1 k2 k3 k4 k5 k6 k7 k8 k9 => exact .mrow k1 k2 k3 k4 k5 k6 k7 k8 k9
  · obtain ⟨b', h1, h2⟩ := R.upd id b h
    exact ⟨b', hS _ _ (C.clean id b h).1 h1, h2⟩
theorem Ghost.low (hb : ∀ i b, 1000 ≤ i → s.S i = some b → b.high = true) : Ghost C s ⟨fun i => (s.env i).low, lowS s.S⟩ := fun a w ⟨σ, ι, R⟩ => ⟨σ, ι, R.low hb⟩
/-- A block of the call's own is handed to the caller, under the name a. -/
def oneTo (id a : Nat) (i : Nat) : Nat := if i = id then a else i
def AV.hand (id a : Nat) (v : AV) : AV := if (v.ren (oneTo id a)).high then v.ren (oneTo id a) else .any
section
variable {S S2 : AStore} {ι2 : AHnd} {id a0 : Nat}
theorem ARep.hand (hS : ∀ i b, 1000 ≤ oneTo id a0 i → S i = some b → S2 (oneTo id a0 i) = some b ∧ ι2 (oneTo id a0 i) = ι i) {v : Value} {c : AC} (h : ARep σ S ι v c) (hc : (c.ren (oneTo id a0)).high = true) : ARep σ S2 ι2 v (c.ren (oneTo id a0)) := by
  induction h with
  | st h => exact .st h
  | full h => exact .full h
  | row h1 h2 h3 h4 =>
    rw [AC.ren, AC.high] at hc
    obtain ⟨q1, q2⟩ := hS _ _ (of_decide_eq_true hc) h1
    rw [AC.ren]
    exact .row q1 h2 h3 (fun hn => by rw [q2]; exact h4 hn)
  | ptr h1 h2 h3 h4 =>
    rw [AC.ren, AC.high] at hc
    obtain ⟨q1, q2⟩ := hS _ _ (of_decide_eq_true hc) h1
    rw [AC.ren]
    exact .ptr q1 h2 h3 (fun hn => by rw [q2]; exact h4 hn)
  | eptr c h1 h2 => exact .eptr c h1 h2
  | @fn f vs caps c h1 h2 h3 ih =>
    rw [AC.ren, AC.high] at hc
    rw [AC.ren]
    have key : ∀ (j : Nat) (b : AC), (AC.rens (oneTo id a0) caps)[j]? = some b → ∃ a, caps[j]? = some a ∧ b = a.ren (oneTo id a0) := fun j b hb => by
      rw [AC.rens_eq, List.getElem?_map, Option.map_eq_some_iff] at hb
      obtain ⟨a, ha, rfl⟩ := hb
      exact ⟨a, ha, rfl⟩
    refine .fn c (by rw [AC.rens_eq]; simpa using h1) (fun j b hb => ?_) (fun j b hb => ?_)
    · obtain ⟨a, ha, rfl⟩ := key j b hb
      exact h2 j a ha
    · have hm := highs_mem hc b (List.mem_of_getElem? hb)
      obtain ⟨a, ha, rfl⟩ := key j b hb
      exact ih j a ha hm
  | any h => exact .any h
mutual
theorem VRep.hand (hS : ∀ i b, 1000 ≤ oneTo id a0 i → S i = some b → S2 (oneTo id a0 i) = some b ∧ ι2 (oneTo id a0 i) = ι i) : ∀ {v : Value} {c : AV}, VRep σ S ι v c → (c.ren (oneTo id a0)).high = true → VRep σ S2 ι2 v (c.ren (oneTo id a0))
  | v, .one c, h, hc => by
    rw [AV.ren] at hc ⊢
    rw [AV.high] at hc
    cases h with | one h => exact .one (h.hand hS hc)
  | v, .agg cs, h, hc => by
    rw [AV.ren] at hc ⊢
    rw [AV.high] at hc
    cases h with
    | agg h =>
      refine .agg (All2.of_get (by rw [AC.rens_eq]; simpa using h.len) fun j x c hx hcj => ?_)
      have hm := highs_mem hc c (List.mem_of_getElem? hcj)
      rw [AC.rens_eq, List.getElem?_map, Option.map_eq_some_iff] at hcj
      obtain ⟨c', hc', rfl⟩ := hcj
      obtain ⟨x', h1, h2⟩ := h.get hc'
      rw [hx] at h1
      cases h1
      exact h2.hand hS hm
  | v, .tup vs, h, hc => by
    rw [AV.ren] at hc ⊢
    rw [AV.high] at hc
    cases h with
    | tup c h1 h2 h3 =>
      obtain ⟨k1, k2⟩ := VRep.hands hS h3 hc
      exact .tup c (by rw [h1, k1]) (fun j b hb => by
        rcases Nat.lt_or_ge j vs.length with hj | hj
        · exact h2 j _ (List.getElem?_eq_getElem hj)
        · rw [List.getElem?_eq_none (by omega)] at hb; cases hb) k2
  | v, .any, h, _ => .any
theorem VRep.hands (hS : ∀ i b, 1000 ≤ oneTo id a0 i → S i = some b → S2 (oneTo id a0 i) = some b ∧ ι2 (oneTo id a0 i) = ι i) : ∀ {vs : List AV} {c : Nat → Value}, (∀ j b, vs[j]? = some b → VRep σ S ι (c j) b) → AV.highs (AV.rens (oneTo id a0) vs) = true → vs.length = (AV.rens (oneTo id a0) vs).length ∧ ∀ j b, (AV.rens (oneTo id a0) vs)[j]? = some b → VRep σ S2 ι2 (c j) b
  | [], c, h, _ => by simp [AV.rens]
  | x :: xs, c, h, hc => by
    rw [AV.rens, AV.highs, Bool.and_eq_true] at hc
    obtain ⟨m1, m2⟩ := VRep.hands hS (vs := xs) (c := fun j => c (j + 1)) (fun j b hb => h (j + 1) b (by simpa using hb)) hc.2
    refine ⟨by simp [AV.rens, ← m1], fun j b hb => ?_⟩
    cases j with
    | zero =>
      simp [AV.rens] at hb
      subst hb
      exact VRep.hand hS (h 0 x rfl) hc.1
    | succ j => exact m2 j b (by simpa [AV.rens] using hb)
end
end
theorem BRep.samecells {S S2 : AStore} {ι2 : AHnd} {h : Hnd} {b : ABlk} (hr : BRep σ S ι w h b) (hc : ∀ v c, ARep σ S ι v c → c.high = true → ARep σ S2 ι2 v c) (hb : b.high = true) : BRep σ S2 ι2 w h b := by
  cases hr with
  | box k1 k2 k3 k4 k5 =>
    refine .box k1 k2 k3 (All2.of_get k4.len fun j v c hv hcj => ?_) k5
    obtain ⟨v', h1, h2⟩ := k4.get hcj
    rw [hv] at h1
    cases h1
    exact hc _ _ h2 (highs_mem hb c (List.mem_of_getElem? hcj))
  | afull k1 k2 k3 k4 => exact .afull k1 k2 k3 k4
  | arow k1 k2 k3 k4 k5 k6 k7 k8 k9 => exact .arow k1 k2 k3 k4 k5 k6 k7 k8 k9
  | mnil k1 k2 => exact .mnil k1 k2
  | mrow k1 k2 k3 k4 k5 k6 k7 k8 k9 => exact .mrow k1 k2 k3 k4 k5 k6 k7 k8 k9
theorem ARep.stay {S S2 : AStore} {ι2 : AHnd} (hS : ∀ i b, 1000 ≤ i → S i = some b → S2 i = some b ∧ ι2 i = ι i) {v : Value} {c : AC} (h : ARep σ S ι v c) (hc : c.high = true) : ARep σ S2 ι2 v c := by
  induction h with
  | st h => exact .st h
  | full h => exact .full h
  | row h1 h2 h3 h4 =>
    rw [AC.high] at hc
    obtain ⟨q1, q2⟩ := hS _ _ (of_decide_eq_true hc) h1
    exact .row q1 h2 h3 (fun hn => by rw [q2]; exact h4 hn)
  | ptr h1 h2 h3 h4 =>
    rw [AC.high] at hc
    obtain ⟨q1, q2⟩ := hS _ _ (of_decide_eq_true hc) h1
    exact .ptr q1 h2 h3 (fun hn => by rw [q2]; exact h4 hn)
  | eptr c h1 h2 => exact .eptr c h1 h2
  | fn c h1 h2 h3 ih =>
    rw [AC.high] at hc
    exact .fn c h1 h2 (fun j a ha => ih j a ha (highs_mem hc a (List.mem_of_getElem? ha)))
  | any h => exact .any h
theorem Refs.hand (R : Refs C σ ι s a w) (id a0 : Nat) {b0 : ABlk} (hid : id < 1000) (ha : 1000 ≤ a0) (hSa : s.S a0 = none) (hb0 : s.S id = some b0) (hbh : b0.high = true) (hb : ∀ i b, 1000 ≤ i → s.S i = some b → b.high = true) :
    Refs C σ (updE ι a0 (ι id)) ⟨fun i => (s.env i).hand id a0, updE (lowS s.S) a0 (some b0)⟩ a w ∧ ∀ i b, 1000 ≤ oneTo id a0 i → s.S i = some b → updE (lowS s.S) a0 (some b0) (oneTo id a0 i) = some b ∧ updE ι a0 (ι id) (oneTo id a0 i) = ι i := by
  have hlow : ∀ i, 1000 ≤ i → lowS s.S i = s.S i := fun i hi => by
    show (if i < 1000 then none else s.S i) = _
    rw [if_neg (by omega)]
  have hS : ∀ i b, 1000 ≤ oneTo id a0 i → s.S i = some b → updE (lowS s.S) a0 (some b0) (oneTo id a0 i) = some b ∧ updE ι a0 (ι id) (oneTo id a0 i) = ι i := fun i b hi h => by
    unfold oneTo at hi ⊢
    by_cases e : i = id
    · subst e
      rw [if_pos rfl, updE_same, updE_same, ← hb0, h]
      exact ⟨rfl, rfl⟩
    · rw [if_neg e] at hi ⊢
      have hne : i ≠ a0 := fun e => by subst e; rw [hSa] at h; cases h
      rw [updE_ne _ hne, updE_ne _ hne, hlow i hi]
      exact ⟨h, rfl⟩
  have hS' : ∀ i b, 1000 ≤ i → s.S i = some b → updE (lowS s.S) a0 (some b0) i = some b ∧ updE ι a0 (ι id) i = ι i := fun i b hi h => by
    have hne : i ≠ a0 := fun e => by subst e; rw [hSa] at h; cases h
    rw [updE_ne _ hne, updE_ne _ hne, hlow i hi]
    exact ⟨h, rfl⟩
  have hinv : ∀ i b, updE (lowS s.S) a0 (some b0) i = some b → (i = a0 ∧ b = b0) ∨ (i ≠ a0 ∧ 1000 ≤ i ∧ s.S i = some b) := fun i b h => by
    by_cases e : i = a0
    · subst e
      rw [updE_same] at h
      cases h
      exact .inl ⟨rfl, rfl⟩
    · rw [updE_ne _ e] at h
      have h' : (if i < 1000 then none else s.S i) = some b := h
      split at h'
      · cases h'
      · exact .inr ⟨e, by omega, h'⟩
  refine ⟨⟨R.size, fun i hi => ?_, R.nod, R.fit, fun i b h => ?_, fun i j b c g h1 h2 g1 g2 => ?_, fun i b g h hg => ?_, R.ext, R.old, R.os, R.grown, R.same, fun i b h => ?_⟩, hS⟩
  · show VRep σ (updE (lowS s.S) a0 (some b0)) _ _ ((s.env i).hand id a0)
    unfold AV.hand
    split
    · rename_i hh
      exact (R.env i hi).hand hS hh
    · exact .any
  · rcases hinv i b h with ⟨rfl, rfl⟩ | ⟨hne, h1, h2⟩
    · rw [updE_same]
      exact (R.blk id _ hb0).samecells (fun v c hv hc => hv.stay hS' hc) hbh
    · rw [updE_ne _ hne]
      exact (R.blk i b h2).samecells (fun v c hv hc => hv.stay hS' hc) (hb i b h1 h2)
  · rcases hinv i b h1 with ⟨rfl, rfl⟩ | ⟨hne, k1, k2⟩ <;> rcases hinv j c h2 with ⟨rfl, rfl⟩ | ⟨hne', k1', k2'⟩
    · rfl
    · rw [updE_same] at g1
      rw [updE_ne _ hne'] at g2
      have := R.inj _ _ _ _ g hb0 k2' g1 g2
      omega
    · rw [updE_same] at g2
      rw [updE_ne _ hne] at g1
      have := R.inj _ _ _ _ g k2 hb0 g1 g2
      omega
    · rw [updE_ne _ hne] at g1
      rw [updE_ne _ hne'] at g2
      exact R.inj _ _ _ _ g k2 k2' g1 g2
  · rcases hinv i b h with ⟨rfl, rfl⟩ | ⟨hne, k1, k2⟩
    · rw [updE_same] at hg
      exact R.base _ _ g hb0 hg
    · rw [updE_ne _ hne] at hg
      exact R.base _ _ g k2 hg
  · obtain ⟨b', h1, h2, h3⟩ := R.upd i b h
    obtain ⟨q1, q2⟩ := hS' i b' (C.clean i b h).1 h1
    exact ⟨b', q1, h2, fun hl => ⟨(h3 hl).1, by rw [q2]; exact (h3 hl).2⟩⟩
theorem Ghost.hand (id a0 : Nat) {b0 : ABlk} (hid : id < 1000) (ha : 1000 ≤ a0) (hSa : s.S a0 = none) (hb0 : s.S id = some b0) (hbh : b0.high = true) (hb : ∀ i b, 1000 ≤ i → s.S i = some b → b.high = true) : Ghost C s ⟨fun i => (s.env i).hand id a0, updE (lowS s.S) a0 (some b0)⟩ := fun a w ⟨σ, ι, R⟩ =>
  ⟨σ, _, (R.hand id a0 hid ha hSa hb0 hbh hb).1⟩
/-- The end of a call that hands a block of its own to the caller, under the name a0. -/
theorem finS_hand {C : Ctx} {rs : List RV} {S' : AStore} {e : AX} {s : AS} (he : match e with | .normal => True | .ret => True | _ => False) (id a0 : Nat) (r0 : AV) {b0 : ABlk} (hid : id < 1000) (ha : 1000 ≤ a0) (hSa : s.S a0 = none) (hb0 : s.S id = some b0) (hbh : b0.high = true) (hb : ∀ i b, 1000 ≤ i → s.S i = some b → b.high = true)
    (h1 : (resAll s rs).map tupV = some r0) (hh : (r0.ren (oneTo id a0)).high = true) (h3 : updE (lowS s.S) a0 (some b0) = S') (hc : Clean S') : FinS C rs (r0.ren (oneTo id a0)) S' e s :=
  ⟨he, s, ⟨fun i => (s.env i).hand id a0, updE (lowS s.S) a0 (some b0)⟩, r0, Ghost.refl _ _, h1, fun σ ι a w R => ⟨σ, _, (R.hand id a0 hid ha hSa hb0 hbh hb).1, fun v hv => hv.hand (R.hand id a0 hid ha hSa hb0 hbh hb).2 hh⟩, h3, hc⟩
theorem upS_up (S : AStore) (i : Nat) : upS S (up1 i) = (S i).map (ABlk.ren up1) := by
  show (if i + 1000 < 1000 then none else (S (i + 1000 - 1000)).map (ABlk.ren up1)) = _
  rw [if_neg (by omega), Nat.add_sub_cancel]
theorem dnS_upd (S : AStore) (i : Nat) (b : ABlk) : dnS (updE S (up1 i) (some b)) = updE (dnS S) i (some (b.ren dn1)) := by
  funext k
  show (updE S (up1 i) (some b) (up1 k)).map _ = updE (dnS S) i _ k
  by_cases h : k = i
  · subst h
    rw [updE_same, updE_same]
    rfl
  · have hne : up1 k ≠ up1 i := fun e => h (by have := congrArg dn1 e; rw [dn_up, dn_up] at this; exact this)
    rw [updE_ne _ hne, updE_ne _ h]
    rfl
theorem lowS_low (S : AStore) {i : Nat} (h : i < 1000) (b : Option ABlk) : lowS (updE S i b) = lowS S := by
  funext k
  show (if k < 1000 then none else updE S i b k) = (if k < 1000 then none else S k)
  split
  · rfl
  · exact updE_ne _ (by omega) _
theorem lowS_high (S : AStore) {i : Nat} (h : 1000 ≤ i) (b : Option ABlk) : lowS (updE S i b) = updE (lowS S) i b := by
  funext k
  show (if k < 1000 then none else updE S i b k) = updE (lowS S) i b k
  by_cases e : k = i
  · subst e
    rw [if_neg (by omega), updE_same, updE_same]
  · rw [updE_ne _ e, updE_ne _ e]
    rfl
theorem clean_upd {S : AStore} (h : Clean S) {i : Nat} (hi : 1000 ≤ i) {b : ABlk} (hb : b.high = true) : Clean (updE S i (some b)) := fun k c hk => by
  by_cases e : k = i
  · subst e
    rw [updE_same] at hk
    cases hk
    exact ⟨hi, hb⟩
  · rw [updE_ne _ e] at hk
    exact h k c hk
theorem high_upd {S : AStore} {i : Nat} {b : ABlk} (h : ∀ k c, 1000 ≤ k → S k = some c → c.high = true) (hb : b.high = true) : ∀ k c, 1000 ≤ k → updE S i (some b) k = some c → c.high = true := fun k c hk hc => by
  by_cases e : k = i
  · subst e
    rw [updE_same] at hc
    cases hc
    exact hb
  · rw [updE_ne _ e] at hc
    exact h k c hk hc
theorem high_updL {S : AStore} {i : Nat} (hi : i < 1000) {b : Option ABlk} (h : ∀ k c, 1000 ≤ k → S k = some c → c.high = true) : ∀ k c, 1000 ≤ k → updE S i b k = some c → c.high = true := fun k c hk hc => by
  rw [updE_ne _ (by omega)] at hc
  exact h k c hk hc
/-- A slot's value is forgotten. -/
theorem Ghost.forget (t : Nat) : Ghost C s ⟨updE s.env t .any, s.S⟩ := fun a w ⟨σ, ι, R⟩ => by
  refine ⟨σ, ι, R.size, fun i hi => ?_, R.nod, R.fit, R.blk, R.inj, R.base, R.ext, R.old, R.os, R.grown, R.same, R.upd⟩
  show VRep σ s.S ι _ (updE s.env t .any i)
  unfold updE
  split
  · exact .any
  · exact R.env i hi
end
/-- A loop whose rounds make blocks of their own (ds), forgotten behind each. -/
theorem IWP.loopD {P : Program} {C : Ctx} {mu : List Nat} {Q : AX → AS → Prop} {s : AS} {x : IR} (ds : List Nat) (Inv : Nat → AS → Prop) (m0 : Nat) (h0 : Inv m0 s) (h : ∀ m s, Inv m s → IWP P C mu x (AX.then (fun s' => ∃ m', m' < m ∧ Inv m' (s'.drop ds)) Q) s) (hds : ∀ d ∈ ds, d < 1000 := by decide) : IWP P C mu (.loop x) Q s := by
  refine IWP.loop (fun m s => ∃ s1, Ghost C s s1 ∧ Inv m s1) m0 ⟨s, Ghost.refl _ _, h0⟩ fun m s ⟨s1, hg, hi⟩ => ?_
  refine (IWP.ghost hg (h m s1 hi)).mono fun e s2 he => ?_
  cases e with
  | normal =>
    obtain ⟨m', h1, h2⟩ := he
    exact ⟨m', h1, _, Ghost.drop ds s2 hds, h2⟩
  | _ => exact he

/-! ### a call that turns nothing, where blocks are in hand -/
theorem ARep.out {σ : Sto} {S : AStore} {ι : AHnd} {v : Value} {c : AC} (h : ARep σ S ι v c) (hc : outC noS c = some c) : ARep σ noS noH v c := by
  cases h with
  | st h => exact .st h
  | full h => simp [outC, stC] at hc
  | row h1 h2 h3 h4 => simp [outC, stC, noS] at hc
  | ptr h1 h2 h3 h4 => simp [outC, stC] at hc
  | eptr c h1 h2 => exact .eptr c h1 h2
  | @fn f vs caps c h1 h2 h3 =>
    cases caps with
    | nil => exact .fn c h1 h2 (by simp)
    | cons x xs => simp [outC, stC] at hc
  | any h => simp [outC, stC] at hc
theorem outCs_self : ∀ {cs : List AC}, outCs noS cs = some cs → ∀ c ∈ cs, outC noS c = some c
  | [], _, c, hc => by simp at hc
  | x :: xs, h, c, hc => by
    simp only [outCs] at h
    split at h
    · rename_i y ys h1 h2
      simp only [Option.some.injEq, List.cons.injEq] at h
      obtain ⟨rfl, rfl⟩ := h
      rcases List.mem_cons.1 hc with rfl | hc
      · exact h1
      · exact outCs_self h2 c hc
    · cases h
mutual
theorem VRep.out {σ : Sto} {S : AStore} {ι : AHnd} : ∀ {v : Value} {c : AV}, VRep σ S ι v c → outV noS c = some c → VRep σ noS noH v c
  | v, .one c, h, hc => by
    rw [outV, Option.map_eq_some_iff] at hc
    obtain ⟨a, h1, h2⟩ := hc
    cases h2
    cases h with | one h => exact .one (h.out h1)
  | v, .agg cs, h, hc => by
    rw [outV, Option.map_eq_some_iff] at hc
    obtain ⟨a, h1, h2⟩ := hc
    cases h2
    cases h with
    | agg h => exact .agg (All2.of_get h.len fun j x c hx hcj => by
        obtain ⟨x', q1, q2⟩ := h.get hcj
        rw [hx] at q1
        cases q1
        exact q2.out (outCs_self h1 c (List.mem_of_getElem? hcj)))
  | v, .tup vs, h, hc => by
    rw [outV, Option.map_eq_some_iff] at hc
    obtain ⟨a, h1, h2⟩ := hc
    cases h2
    cases h with
    | tup c k1 k2 k3 => exact .tup c k1 k2 (VRep.outs k3 h1)
  | v, .any, h, _ => .any
theorem VRep.outs {σ : Sto} {S : AStore} {ι : AHnd} : ∀ {vs : List AV} {c : Nat → Value}, (∀ j b, vs[j]? = some b → VRep σ S ι (c j) b) → outVs noS vs = some vs → ∀ j b, vs[j]? = some b → VRep σ noS noH (c j) b
  | [], c, h, _, j, b, hb => by simp at hb
  | x :: xs, c, h, hc, j, b, hb => by
    rw [outVs] at hc
    split at hc
    · rename_i y ys h1 h2
      simp only [Option.some.injEq, List.cons.injEq] at hc
      obtain ⟨rfl, rfl⟩ := hc
      cases j with
      | zero =>
        simp at hb
        subst hb
        exact VRep.out (h 0 _ rfl) h1
      | succ j => exact VRep.outs (c := fun j => c (j + 1)) (fun j b hb => h (j + 1) b (by simpa using hb)) h2 j b (by simpa using hb)
    · cases hc
end
theorem ACalls.toS {P : Program} {f : FuncId} {xs : List AV} {S : AStore} {r : AV} (h : ACalls P f xs r) (hx : outVs noS xs = some xs) : ACallsS P f xs S r S := by
  intro hclean σ w vs ι hglob hfit hown hvs
  have hvs' : All2 (VRep σ noS noH) vs xs := All2.of_get hvs.len fun j v x hv hxj => by
    have := VRep.outs (c := fun j => (vs[j]?).getD undef) (σ := σ) (S := S) (ι := ι) (vs := xs) (fun j b hb => by
      obtain ⟨v', h1, h2⟩ := hvs.get hb
      rw [h1]
      exact h2) hx j x hxj
    rw [hv] at this
    exact this
  refine (h σ w vs hglob hfit hvs').mono fun e w' he => ?_
  obtain ⟨v, σ', he1, he2, hf, hext, hb⟩ := he
  have hlt : ∀ id b g, S id = some b → (ι id).g = some g → g < w.heap.size := fun id b g h1 h2 => (hown.1 id b h1).gsome h2
  refine ⟨v, σ', ι, he1, hclean, Upd.refl _ _, ⟨fun id b hid => (hown.1 id b hid).mono hext.keep (Upd.refl _ _) (fun g hg => hb.block g (hlt id b g hid hg)) (fun g hg p hp => hext.old p (by have := hlt id b g hid hg; omega)), hown.2⟩,
    noS_upd (s := ⟨fun _ => .any, S⟩) he2, hf, hext.keep, fun p hp _ => hext.old p hp, ⟨hb.os, hb.tape, hb.output⟩, hb.size, fun g hg _ => hb.block g hg, fun id b g h1 h2 => .inr fun hn => hn id b h1 h2⟩

/-- The results of a call are read, what is its own is forgotten. -/
theorem finS_low {C : Ctx} {rs : List RV} {r : AV} {S' : AStore} {e : AX} {s : AS} (he : match e with | .normal => True | .ret => True | _ => False) (r0 : AV) (h1 : (resAll s rs).map tupV = some r0) (h2 : outV s.S r0 = some r) (hb : ∀ i b, 1000 ≤ i → s.S i = some b → b.high = true) (h3 : lowS s.S = S') (hc : Clean S') : FinS C rs r S' e s := by
  refine ⟨he, s, ⟨fun i => (s.env i).low, lowS s.S⟩, r0, Ghost.refl _ _, h1, fun σ ι a w R => ?_, h3, hc⟩
  exact ⟨σ, ι, R.low hb, fun v hv => noS_upd (s := ⟨fun i => (s.env i).low, lowS s.S⟩) (R.outV hv h2)⟩
/-- The end of a call whose results are told as they stand. -/
theorem finS_high {C : Ctx} {rs : List RV} {r : AV} {S' : AStore} {e : AX} {s : AS} (he : match e with | .normal => True | .ret => True | _ => False) (h1 : (resAll s rs).map tupV = some r) (hh : r.high = true) (hb : ∀ i b, 1000 ≤ i → s.S i = some b → b.high = true) (h3 : lowS s.S = S') (hc : Clean S') : FinS C rs r S' e s :=
  ⟨he, s, ⟨fun i => (s.env i).low, lowS s.S⟩, r, Ghost.refl _ _, h1, fun σ ι a w R => ⟨σ, ι, R.low hb, fun v hv => hv.low (fun i b hi hS => by
    show lowS s.S i = some b
    unfold lowS
    rw [if_neg (by omega)]
    exact hS) hh⟩, h3, hc⟩
end Go.Proofs.YtbiadmlfejnbcaaGreatDoor

namespace Go.Proofs.YtbiadmlfejnbcaaGreatDoor
open Go Go.RowKit
set_option linter.unusedVariables false
open Cod (wid dat)

/-! ### terms -/
inductive Tm where
  | mk (name : ByteArray) (args : List Tm)
def Tm.name : Tm → ByteArray | .mk n _ => n
def Tm.args : Tm → List Tm | .mk _ xs => xs
theorem Tm.eta (t : Tm) : Tm.mk t.name t.args = t := by cases t; rfl
mutual
def Tm.dat : Tm → Dat
  | .mk n xs => .agg [.str n, .row 2 (Tm.dats xs)]
def Tm.dats : List Tm → List Dat
  | [] => []
  | t :: ts => t.dat :: Tm.dats ts
end
theorem Tm.dats_eq : ∀ xs : List Tm, Tm.dats xs = xs.map Tm.dat
  | [] => rfl
  | t :: ts => by rw [Tm.dats, Tm.dats_eq ts]; rfl
theorem Tm.dat_is {σ : Sto} {n : ByteArray} {xs : List Tm} {cs : List Value} (h : (Tm.dat (.mk n xs)).Is σ cs) :
    ∃ p len cap, cs = [.string n, .slice p len cap] ∧ n.size ≤ maxLen ∧ len = xs.length ∧ len ≤ cap ∧ cap ≤ maxLen ∧ (p = none → cap = 0) ∧ ∃ b o, (len ≠ 0 → p = some ⟨b, o, none⟩) ∧ Dat.RowIs σ 2 (xs.map Tm.dat) b o := by
  rw [Tm.dat, Tm.dats_eq] at h
  obtain ⟨x, y, rfl, ⟨rfl, hn⟩, x', y', rfl, ⟨p, len, cap, rfl, hl, r⟩, rfl⟩ := h
  exact ⟨p, len, cap, rfl, hn, by simpa using hl, r⟩
instance : Cod Tm := ⟨2, Tm.dat, fun σ t cs h => by
  cases t
  obtain ⟨p, len, cap, rfl, _⟩ := Tm.dat_is h
  rfl⟩
theorem cells_tm {σ : Sto} {cs : List Value} {t : Tm} : Cells σ cs t ↔ ∃ p len cap, cs = [.string t.name, .slice p len cap] ∧ t.name.size ≤ maxLen ∧ Slc σ p len cap t.args := by
  cases t with
  | mk n xs =>
  constructor
  · intro h
    obtain ⟨p, len, cap, h1, h2, h3⟩ := Tm.dat_is h
    exact ⟨p, len, cap, h1, h2, h3⟩
  · rintro ⟨p, len, cap, rfl, h2, h3, h4⟩
    show (Tm.dat (.mk n xs)).Is σ _
    rw [Tm.dat, Tm.dats_eq]
    exact ⟨[.string n], [.slice p len cap], rfl, ⟨rfl, h2⟩, [.slice p len cap], [], rfl, ⟨p, len, cap, rfl, by show len = (xs.map Tm.dat).length; rw [List.length_map]; exact h3, h4⟩, rfl⟩

/-- The value v is the term t. -/
def TmV (σ : Sto) (v : Value) (t : Tm) : Prop := ∃ p len cap, v = .agg #[.string t.name, .slice p len cap] ∧ t.name.size ≤ maxLen ∧ Slc σ p len cap t.args
theorem TmV.ext {σ σ' : Sto} {N : Nat} {v : Value} {t : Tm} (h : TmV σ v t) (he : Ext N σ σ') : TmV σ' v t := by
  obtain ⟨p, len, cap, h1, h2, h3⟩ := h
  exact ⟨p, len, cap, h1, h2, h3.ext he⟩
/-- The k-th of a slice of terms. -/
theorem Slc.tm {σ : Sto} {p : Option Addr} {len cap : Nat} {xs : List Tm} (h : Slc σ p len cap xs) (k : Nat) (hk : k < len) :
    ∃ b o a q l c, p = some ⟨b, o, none⟩ ∧ Hid (xs[k]? = some a) ∧ σ ⟨b, o + k * 2, none⟩ = some (.string a.name) ∧ σ ⟨b, o + k * 2 + 1, none⟩ = some (.slice q l c) ∧ a.name.size ≤ maxLen ∧ Slc σ q l c a.args := by
  have hl := h.length
  obtain ⟨b, o, hp, cs, h1, h2, h3⟩ := h.get k (by omega)
  obtain ⟨q, l, c, rfl, h4, h5⟩ := cells_tm.1 h3
  exact ⟨b, o, xs[k], q, l, c, hp, Lib.hid (List.getElem?_eq_getElem (by omega)), h2 0 _ rfl, h2 1 _ rfl, h4, h5⟩

/-! ### strings and numbers in slices -/
theorem Slc.str {σ : Sto} {p : Option Addr} {len cap : Nat} {xs : List ByteArray} (h : Slc σ p len cap xs) (k : Nat) (hk : k < len) :
    ∃ b o a, p = some ⟨b, o, none⟩ ∧ Hid (xs[k]? = some a) ∧ σ ⟨b, o + k, none⟩ = some (.string a) ∧ a.size ≤ maxLen := by
  have hl := h.length
  obtain ⟨b, o, hp, cs, h1, h2, h3⟩ := h.get k (by omega)
  obtain ⟨rfl, h4⟩ := cells_str.1 h3
  have := h2 0 _ rfl
  exact ⟨b, o, xs[k], hp, Lib.hid (List.getElem?_eq_getElem (by omega)), by simpa [Cod.wid] using this, h4⟩
theorem wf_bounds {n : Int} (h : (Lit.int .i64 n).wf = true) : -9223372036854775808 ≤ n ∧ n ≤ 9223372036854775807 := by
  simpa [Lit.wf, IntKind.min, IntKind.max, IntKind.signed, IntKind.bits] using h
theorem Slc.int {σ : Sto} {p : Option Addr} {len cap : Nat} {xs : List Int} (h : Slc σ p len cap xs) (k : Nat) (hk : k < len) :
    ∃ b o a, p = some ⟨b, o, none⟩ ∧ Hid (xs[k]? = some a) ∧ σ ⟨b, o + k, none⟩ = some (.int .i64 a) ∧ -9223372036854775808 ≤ a ∧ a ≤ 9223372036854775807 := by
  have hl := h.length
  obtain ⟨b, o, hp, cs, h1, h2, h3⟩ := h.get k (by omega)
  obtain ⟨rfl, h4⟩ := cells_int.1 h3
  have := h2 0 _ rfl
  exact ⟨b, o, xs[k], hp, Lib.hid (List.getElem?_eq_getElem (by omega)), by simpa [Cod.wid] using this, wf_bounds h4⟩
theorem take_snoc {α : Type} {xs : List α} {k : Nat} {a : α} (h : xs[k]? = some a) : xs.take (k + 1) = xs.take k ++ [a] := by
  rw [List.take_add_one, h]; rfl
theorem lt_of_get {α : Type} {xs : List α} {k : Nat} {a : α} (h : xs[k]? = some a) : k < xs.length := by
  rcases Nat.lt_or_ge k xs.length with h' | h'
  · exact h'
  · rw [List.getElem?_eq_none h'] at h; cases h
theorem mem_of_get {α : Type} {xs : List α} {k : Nat} {a : α} (h : xs[k]? = some a) : a ∈ xs := List.mem_of_getElem? h
theorem Tm.lt_of_mem {a : Tm} {n : ByteArray} {xs : List Tm} (h : a ∈ xs) : SizeOf.sizeOf a < SizeOf.sizeOf (Tm.mk n xs) := by
  have := List.sizeOf_lt_of_mem h
  simp only [Tm.mk.sizeOf_spec]
  omega
end Go.Proofs.YtbiadmlfejnbcaaGreatDoor

namespace Go.Proofs.YtbiadmlfejnbcaaGreatDoor
open Go Go.RowKit
set_option linter.unusedVariables false
/-- A guard, or a choice, as a test: what is not reached is not looked at. -/
theorem guard_ite (c P Q : Prop) [Decidable c] : ((c → P) ∧ (¬ c → Q)) = if c then P else Q := by
  by_cases h : c <;> simp [h]
theorem ite_conj {c A B : Prop} [Decidable c] (h : (c → A) ∧ (¬ c → B)) : if c then A else B := by
  by_cases hc : c
  · rw [if_pos hc]; exact h.1 hc
  · rw [if_neg hc]; exact h.2 hc
theorem pick_ite (b : Bool) (P Q : Prop) : ((b = true → P) ∧ (b = false → Q)) = if b = true then P else Q := by
  cases b <;> simp
attribute [congr] CallK.congr CallSK.congr
mutual
def encT : Tm → List SV
  | .mk n xs => [.str n, .list (encTs xs)]
def encTs : List Tm → List (List SV)
  | [] => []
  | t :: ts => encT t :: encTs ts
end
theorem encTs_eq : ∀ xs : List Tm, encTs xs = xs.map encT
  | [] => rfl
  | t :: ts => by rw [encTs, encTs_eq ts]; rfl
theorem encT_eq (t : Tm) : encT t = [.str t.name, .list (t.args.map encT)] := by
  cases t
  rw [encT, encTs_eq]
  rfl
theorem len_encT (t : Tm) : (encT t).length = 2 := by rw [encT_eq]; rfl
theorem lens_encT {ts : List Tm} : ∀ x ∈ ts.map encT, x.length = 2 := by
  intro x hx
  obtain ⟨a, _, rfl⟩ := List.mem_map.1 hx
  exact len_encT a
theorem Tm.args_mk (n : ByteArray) (xs : List Tm) : (Tm.mk n xs).args = xs := rfl
theorem Tm.name_mk (n : ByteArray) (xs : List Tm) : (Tm.mk n xs).name = n := rfl
abbrev aInt (n : Int) : AV := .one (.st (.int .i64 n))
abbrev aBool (b : Bool) : AV := .one (.st (.bool b))
abbrev aStr (s : ByteArray) : AV := .one (.st (.str s))
abbrev aTm (t : Tm) : AV := .agg [.st (.str t.name), .st (.list (t.args.map encT))]
abbrev encI (n : Int) : List SV := [.int .i64 n]
abbrev encS (s : ByteArray) : List SV := [.str s]
abbrev encIs (p : List Int) : List SV := [.list (p.map encI)]
abbrev aIss (l : List (List Int)) : AV := .one (.st (.list (l.map encIs)))
abbrev aInts (l : List Int) : AV := .one (.st (.list (l.map encI)))
abbrev aStrs (l : List ByteArray) : AV := .one (.st (.list (l.map encS)))
abbrev aTms (l : List Tm) : AV := .one (.st (.list (l.map encT)))
theorem get_lt {α : Type} {xs : List α} {k : Nat} (h : k < xs.length) : ∃ a, xs[k]? = some a := ⟨xs[k], List.getElem?_eq_getElem h⟩
theorem inR_i64 (n : Int) : inR .i64 n ↔ -9223372036854775808 ≤ n ∧ n ≤ 9223372036854775807 := by
  simp [inR, IntKind.min, IntKind.max, IntKind.signed, IntKind.bits]
theorem known_ints {l : List Int} (h : (SV.list (l.map encI)).known) : l.length ≤ maxLen ∧ ∀ n ∈ l, inR .i64 n := by
  obtain ⟨h1, h2⟩ := h
  refine ⟨by simpa using h1, fun n hn => ?_⟩
  have := knownL_iff.1 (knownLL_iff.1 h2 (encI n) (List.mem_map.2 ⟨n, hn, rfl⟩)) (.int .i64 n) (by simp)
  exact this
theorem maxLen_eq : maxLen = 9223372036854775807 := by simp [maxLen]
theorem known_len {S : AStore} {xs : List (List SV)} (h : (AV.one (.st (.list xs))).known S) : xs.length ≤ 9223372036854775807 := by
  simp only [AV.known, AC.known, SV.known] at h
  rw [maxLen_eq] at h
  exact h.1
theorem known_tm {S : AStore} {t : Tm} (h : (aTm t).known S) : t.name.size ≤ 9223372036854775807 ∧ t.args.length ≤ 9223372036854775807 := by
  have h1 : t.name.size ≤ maxLen := by
    have := h (.st (.str t.name)) (by simp)
    simpa [AC.known, SV.known] using this
  have h2 : t.args.length ≤ maxLen := by
    have := h (.st (.list (t.args.map encT))) (by simp)
    simp only [AC.known, SV.known, List.length_map] at this
    exact this.1
  rw [maxLen_eq] at h1 h2
  exact ⟨h1, h2⟩
end Go.Proofs.YtbiadmlfejnbcaaGreatDoor

namespace Go.Proofs.YtbiadmlfejnbcaaGreatDoor
open Go Go.RowKit
set_option linter.unusedVariables false

def Kd.isCall : Kd → Bool
  | .call _ _ => true
  | .callS _ _ => true
  | .callV _ _ => true
  | .mov _ => false
  | .pick _ _ _ => false
  | .alloc _ _ => false
  | .box _ _ => false
  | .build _ _ => false
  | .buildSlice _ _ _ _ => false
  | .load _ _ _ => false
  | .store _ _ _ => false
  | .fieldAddr _ _ => false
  | .field _ _ _ _ => false
  | .indexAddr _ _ _ => false
  | .indexArr _ _ _ _ => false
  | .indexStr _ _ => false
  | .bin _ _ _ => false
  | .eqB _ _ _ => false
  | .eqN _ _ => false
  | .eqE _ _ => false
  | .never => false
  | .strOf _ => false
  | .un _ _ => false
  | .sliceS _ _ _ => false
  | .sliceL _ _ _ _ => false
  | .extract _ _ => false
  | .len _ _ => false
  | .append _ _ _ _ _ _ => false
  | .conv _ _ => false
  | .nilCheck _ => false
  | .mm _ _ _ => false
  | .makeSlice _ _ _ _ _ _ => false
  | .makeFunc _ _ => false
/-- A call stands ahead; then the operations l. -/
inductive CallG (P : Program) (f : FuncId) (vs : List AV) (d : Option Nat) (l : List Ins) (s : AS) (K : AS → Prop) : Prop
  | mk (r : AV) (h1 : ACalls P f vs r) (h2 : Run P l (s.put d r) K)
inductive CallSG (P : Program) (f : FuncId) (vs : List AV) (S : AStore) (ks : List Nat) (d : Option Nat) (l : List Ins) (env : Nat → AV) (K : AS → Prop) : Prop
  | mk (r : AV) (S' : AStore) (h1 : ACallsS P f vs (upS S) r S') (h2 : (∀ k ∈ ks, dnS S' k = S k) ∧ Run P l ((⟨env, dnS S'⟩ : AS).put d (r.ren dn1)) K)
def Kd.goC (P : Program) (d : Option Nat) (s : AS) (t : Tag) (l : List Ins) (K : AS → Prop) : Kd → Prop
  | .call f xs => match t with
    | .no => match outVs s.S (s.evs xs) with
      | some vs => CallG P f vs d l s K
      | none => False
    | _ => False
  | .callS f xs => match t with
    | .no => CallSG P f (AV.rens up1 (s.evs xs)) s.S [] d l s.env K
    | .keeps ks => CallSG P f (AV.rens up1 (s.evs xs)) s.S ks d l s.env K
    | .onb _ => False
  | .callV f xs => match s.ev f with
    | .one (.fn g caps) => plainF P g = true ∧ match t with
      | .no => CallSG P g (AV.rens up1 (s.evs xs ++ caps.map .one)) s.S [] d l s.env K
      | .keeps ks => CallSG P g (AV.rens up1 (s.evs xs ++ caps.map .one)) s.S ks d l s.env K
      | .onb _ => False
    | _ => False
  | _ => False
/-- Run, stopped at calls. -/
def Run2 (P : Program) : List Ins → AS → (AS → Prop) → Prop
  | [], s, K => K s
  | i :: l, s, K => match i.kd.isCall with
    | false => match i.guard with
      | none => i.kd.goT P (i.dst.getD 0) s i.tag fun v s' => Run2 P l (s'.put i.dst v) K
      | some (g, want) => match s.env g with
        | .one (.st (.bool b)) => (b = want → i.kd.goT P (i.dst.getD 0) s i.tag fun v s' => Run2 P l (s'.put i.dst v) K) ∧ (¬ b = want → Run2 P l (s.put i.dst (.tup [])) K)
        | .tup [] => Run2 P l (s.put i.dst (.tup [])) K
        | _ => False
    | true => match i.guard with
      | none => i.kd.goC P i.dst s i.tag l K
      | some (g, want) => match s.env g with
        | .one (.st (.bool b)) => (b = want → i.kd.goC P i.dst s i.tag l K) ∧ (¬ b = want → Run2 P l (s.put i.dst (.tup [])) K)
        | .tup [] => Run2 P l (s.put i.dst (.tup [])) K
        | _ => False
section
variable {P : Program}
theorem goC_run {kd : Kd} {d : Option Nat} {s : AS} {t : Tag} {l : List Ins} {K : AS → Prop} (h : kd.goC P d s t l K) : kd.goT P (d.getD 0) s t fun v s' => Run P l (s'.put d v) K := by
  cases kd <;> simp only [Kd.goC] at h
  case call f xs =>
    cases t <;> simp only at h
    split at h
    · rename_i vs e
      obtain ⟨r, h1, h2⟩ := h
      simp only [Kd.goT, Kd.go, e]
      exact ⟨r, h1, trivial, h2⟩
    · exact h.elim
  case callS f xs =>
    cases t <;> simp only at h
    · obtain ⟨r, S', h1, h2, h3⟩ := h
      exact ⟨r, S', h1, trivial, h3⟩
    · obtain ⟨r, S', h1, h2, h3⟩ := h
      exact ⟨r, S', h1, h2, h3⟩
  case callV f xs =>
    split at h
    · rename_i g caps e
      obtain ⟨hp, h⟩ := h
      cases t <;> simp only at h
      · obtain ⟨r, S', h1, h2, h3⟩ := h
        simp only [Kd.goT, Kd.go, e]
        exact ⟨hp, r, S', h1, trivial, h3⟩
      · obtain ⟨r, S', h1, h2, h3⟩ := h
        simp only [Kd.goT, Kd.go, e]
        exact ⟨hp, r, S', h1, h2, h3⟩
    · exact h.elim
theorem run2_run : ∀ {l : List Ins} {s : AS} {K : AS → Prop}, Run2 P l s K → Run P l s K
  | [], s, K, h => h
  | i :: l, s, K, h => by
    unfold Run2 at h
    unfold Run
    split at h
    · split at h
      · rename_i e
        simp only [e]
        exact goT_mono h fun v s' _ h' => run2_run h'
      · rename_i g want e
        simp only [e]
        split at h
        · rename_i b e2
          simp only [e2]
          exact ⟨fun hb => goT_mono (h.1 hb) fun v s' _ h' => run2_run h', fun hb => run2_run (h.2 hb)⟩
        · rename_i e2
          simp only [e2]
          exact run2_run h
        · exact h.elim
    · split at h
      · rename_i e
        simp only [e]
        exact goC_run h
      · rename_i g want e
        simp only [e]
        split at h
        · rename_i b e2
          simp only [e2]
          exact ⟨fun hb => goC_run (h.1 hb), fun hb => run2_run (h.2 hb)⟩
        · rename_i e2
          simp only [e2]
          exact run2_run h
        · exact h.elim
theorem keep_run2 {l : List Ins} {s : AS} {K : AS → Prop} {A : Prop} (h : A ∧ Run2 P l s K) : A ∧ Run P l s K := ⟨h.1, run2_run h.2⟩
theorem IWP.ops2 {C : Ctx} {mu : List Nat} {Q : AX → AS → Prop} {s : AS} {l : List Ins} (h : ∀ K : AS → Prop, (∀ s, Q .normal s → K s) → Run2 P l s K) : IWP P C mu (.ops l) Q s := IWP.opsK fun K hK => run2_run (h K hK)
end
-- the walk's own equations
attribute [go_sem] Run2 Kd.isCall Kd.goC Kd.goT Tag.ok Kd.ptrOpd ptrIs List.forall_mem_cons List.not_mem_nil Kd.go AS.ev AS.evs AS.put AS.set updE AV.cells fills elems stC stCs outC outCs outV outVs blkCells idxK listOf lenOfA binI binS optI pack splice ABlk.len AS.start AS.startS noS List.getElem?_cons_zero List.getElem?_cons_succ List.getElem?_nil List.getElem?_map Option.isSome_none Option.isSome_some Option.map_some Option.map_none Option.getD_some Option.getD_none List.length_map List.length_cons List.length_nil List.length_append List.map_cons List.map_nil List.take_succ_cons List.take_zero List.take_nil List.drop_succ_cons List.drop_zero List.drop_nil List.nil_append List.cons_append List.append_nil Nat.zero_add Nat.add_zero Nat.le_refl Nat.zero_le if_true if_false Bool.false_eq_true true_and and_true Option.some.injEq Int.toNat_natCast Int.natCast_nonneg Int.ofNat_eq_natCast ite_self decide_true decide_false not_true_eq_false not_false_eq_true true_implies false_implies implies_true Bool.true_eq_false eq_self Bool.not_true Bool.not_false beq_self_eq_true Tm.args_mk Tm.name_mk AV.rens AV.ren AC.ren AC.rens ABlk.ren upS_up dn_up dnS_upd dn_upS

/-! short names for the rules -/
abbrev Wa := @IWP.seq
abbrev Wb := @seqQ_normal
abbrev Wc := @IWP.block
abbrev Wd := @IWP.skip
abbrev We := @IWP.exit
abbrev Wf := @IWP.ret
abbrev Wg := @seqQ_exit
abbrev Wh := @seqQ_ret
abbrev Wi := @inBlock_normal
abbrev Wj := @inBlock_here
abbrev Wk := @inBlock_away
abbrev Wl := @inBlock_ret
abbrev Wm := @then_exit
abbrev Wn := @then_ret
abbrev Wo := @IWP.ops2
abbrev Wp := @IWP.cond
abbrev Wq := @run2_run
abbrev Wr := @keep_run2
end Go.Proofs.YtbiadmlfejnbcaaGreatDoor

namespace Go.Proofs.YtbiadmlfejnbcaaGreatDoor
open Go Go.RowKit
set_option linter.unusedVariables false

def letterI (n : Int) : Bool := decide (97 ≤ n ∧ n ≤ 122) || decide (65 ≤ n ∧ n ≤ 90) || decide (48 ≤ n ∧ n ≤ 57)
def byteAt (s : ByteArray) (k : Nat) : Int := ((s.data.toList.getD k 0).toNat : Int)
theorem byteAt_get (s : ByteArray) (k : Nat) (h : k < s.size) : ((s[k]'h).toNat : Int) = byteAt s k := by
  unfold byteAt
  have h2 : k < s.data.toList.length := by simpa using h
  rw [List.getD_eq_getElem?_getD, List.getElem?_eq_getElem h2]
  rfl
theorem byteAt_range (s : ByteArray) (k : Nat) : 0 ≤ byteAt s k ∧ byteAt s k ≤ 255 := by
  unfold byteAt
  have := (s.data.toList.getD k 0).toNat_lt
  omega
def isVar (s : ByteArray) : Bool := decide (0 < s.size) && decide (65 ≤ byteAt s 0) && decide (byteAt s 0 ≤ 90)
def lettersTo (s : ByteArray) (k : Nat) : Bool := (s.data.toList.take k).all fun c => letterI c.toNat
def nameOk (s : ByteArray) : Bool := decide (1 ≤ s.size) && decide (s.size ≤ 8) && !(decide (48 ≤ byteAt s 0) && decide (byteAt s 0 ≤ 57)) && lettersTo s s.size
theorem lettersTo_succ (s : ByteArray) (k : Nat) (h : k < s.size) : lettersTo s (k + 1) = (lettersTo s k && letterI (byteAt s k)) := by
  unfold lettersTo byteAt
  have h2 : k < s.data.toList.length := by simpa using h
  rw [List.take_add_one, List.getD_eq_getElem?_getD, List.getElem?_eq_getElem h2]
  simp
theorem lettersTo_no (s : ByteArray) (k : Nat) (h : k < s.size) (hn : letterI (byteAt s k) = false) : lettersTo s s.size = false := by
  unfold lettersTo byteAt at *
  have h2 : k < s.data.toList.length := by simpa using h
  rw [List.getD_eq_getElem?_getD, List.getElem?_eq_getElem h2] at hn
  rw [List.all_eq_false]
  refine ⟨s.data.toList[k], ?_, by simpa using hn⟩
  rw [List.take_of_length_le (by simp)]
  exact List.getElem_mem h2
theorem toList_nil (s : ByteArray) : s.toList = [] ↔ s.size = 0 := by
  rw [ByteArray.toList_eq]
  constructor
  · intro h
    have := congrArg List.length h
    simpa using this
  · intro h
    exact List.eq_nil_of_length_eq_zero (by simpa using h)



mutual
def Tm.size : Tm → Nat
  | .mk _ xs => 1 + Tm.sizes xs
def Tm.sizes : List Tm → Nat
  | [] => 0
  | t :: ts => t.size + Tm.sizes ts
end
theorem Tm.sizes_append (xs ys : List Tm) : Tm.sizes (xs ++ ys) = Tm.sizes xs + Tm.sizes ys := by
  induction xs with
  | nil => simp [Tm.sizes]
  | cons t ts ih => simp only [List.cons_append, Tm.sizes, ih]; omega
theorem Tm.sizes_take {xs : List Tm} {k : Nat} {a : Tm} (h : xs[k]? = some a) : Tm.sizes (xs.take (k+1)) = Tm.sizes (xs.take k) + a.size := by
  rw [take_snoc h, Tm.sizes_append]; simp [Tm.sizes]
theorem Tm.sizes_take_le (xs : List Tm) (k : Nat)  : Tm.sizes (xs.take k) ≤ Tm.sizes xs := by
  have := Tm.sizes_append (xs.take k) (xs.drop k)
  rw [List.take_append_drop] at this
  omega
theorem Tm.size_eq (t : Tm) : t.size = 1 + Tm.sizes t.args := by cases t; rfl
theorem Tm.size_pos (t : Tm) : 1 ≤ t.size := by rw [Tm.size_eq]; omega
theorem Tm.size_mem {a : Tm} {xs : List Tm} (h : a ∈ xs) : a.size ≤ Tm.sizes xs := by
  induction xs with
  | nil => simp at h
  | cons t ts ih =>
    rcases List.mem_cons.1 h with rfl | h
    · simp only [Tm.sizes]; omega
    · have := ih h; simp only [Tm.sizes]; omega
theorem Tm.length_le (xs : List Tm) : xs.length ≤ Tm.sizes xs := by
  induction xs with
  | nil => simp [Tm.sizes]
  | cons t ts ih => have := Tm.size_pos t; simp only [Tm.sizes, List.length_cons]; omega
theorem Tm.lt_of_arg {a t : Tm} (h : a ∈ t.args) : SizeOf.sizeOf a < SizeOf.sizeOf t := by
  cases t
  exact Tm.lt_of_mem h
/-- m less s, but -1 at the least -/
def lessBy (s : Nat) (m : Int) : Int := if m < s then -1 else m - s
/-- s, but m + 1 at the most -/
def capTo (s : Nat) (m : Int) : Int := if m < s then m + 1 else s



mutual
def Tm.knots : Tm → List Tm
  | .mk n xs => .mk n xs :: Tm.knotsL xs
def Tm.knotsL : List Tm → List Tm
  | [] => []
  | t :: ts => t.knots ++ Tm.knotsL ts
end
theorem Tm.knots_eq (t : Tm) : t.knots = t :: Tm.knotsL t.args := by cases t; rfl
theorem Tm.knotsL_append (xs ys : List Tm) : Tm.knotsL (xs ++ ys) = Tm.knotsL xs ++ Tm.knotsL ys := by
  induction xs with
  | nil => simp [Tm.knotsL]
  | cons t ts ih => simp [Tm.knotsL, ih]
theorem Tm.knotsL_take {xs : List Tm} {k : Nat} {a : Tm} (h : xs[k]? = some a) : Tm.knotsL (xs.take (k+1)) = Tm.knotsL (xs.take k) ++ a.knots := by
  rw [take_snoc h, Tm.knotsL_append]; simp [Tm.knotsL]
mutual
theorem Tm.knots_length : ∀ t : Tm, t.knots.length = t.size
  | .mk n xs => by simp only [Tm.knots, Tm.size, List.length_cons, Tm.knotsL_length xs]; omega
theorem Tm.knotsL_length : ∀ xs : List Tm, (Tm.knotsL xs).length = Tm.sizes xs
  | [] => rfl
  | t :: ts => by simp only [Tm.knotsL, Tm.sizes, List.length_append, Tm.knots_length t, Tm.knotsL_length ts]
end


def chkOne (t : Tm) : Int := if nameOk t.name = true then (if isVar t.name = true ∧ 0 < t.args.length then 2 else 0) else 1
mutual
def Tm.chk : Tm → Int
  | .mk n xs => if chkOne (.mk n xs) = 0 then Tm.chkL xs else chkOne (.mk n xs)
def Tm.chkL : List Tm → Int
  | [] => 0
  | t :: ts => if t.chk = 0 then Tm.chkL ts else t.chk
end
def firstErr : List Tm → Int
  | [] => 0
  | t :: ts => if chkOne t = 0 then firstErr ts else chkOne t
theorem Tm.chk_eq (t : Tm) : t.chk = if chkOne t = 0 then Tm.chkL t.args else chkOne t := by cases t; rfl
theorem firstErr_append (xs ys : List Tm) : firstErr (xs ++ ys) = if firstErr xs = 0 then firstErr ys else firstErr xs := by
  induction xs with
  | nil => simp [firstErr]
  | cons t ts ih =>
    simp only [List.cons_append, firstErr]
    by_cases h : chkOne t = 0
    · simp only [h, if_true, ih]
    · simp only [h, if_false]
mutual
theorem Tm.firstErr_knots : ∀ t : Tm, firstErr t.knots = t.chk
  | .mk n xs => by
    simp only [Tm.knots, firstErr, Tm.chk]
    split
    · exact Tm.firstErr_knotsL xs
    · rfl
theorem Tm.firstErr_knotsL : ∀ xs : List Tm, firstErr (Tm.knotsL xs) = Tm.chkL xs
  | [] => rfl
  | t :: ts => by
    simp only [Tm.knotsL, firstErr_append, Tm.firstErr_knots t, Tm.firstErr_knotsL ts, Tm.chkL]
end
theorem Tm.chkL_append (xs ys : List Tm) : Tm.chkL (xs ++ ys) = if Tm.chkL xs = 0 then Tm.chkL ys else Tm.chkL xs := by
  induction xs with
  | nil => simp [Tm.chkL]
  | cons t ts ih =>
    simp only [List.cons_append, Tm.chkL]
    by_cases h : t.chk = 0
    · simp only [h, if_true, ih]
    · simp only [h, if_false]
theorem Tm.chkL_get {xs : List Tm} {k : Nat} {a : Tm} (h : xs[k]? = some a) (h0 : Tm.chkL (xs.take k) = 0) : (a.chk = 0 → Tm.chkL (xs.take (k+1)) = 0) ∧ (a.chk ≠ 0 → Tm.chkL xs = a.chk) := by
  constructor
  · intro ha
    rw [take_snoc h, Tm.chkL_append, if_pos h0]
    simp [Tm.chkL, ha]
  · intro ha
    rw [← List.take_append_drop k xs, Tm.chkL_append, if_pos h0]
    have hd : xs.drop k = a :: xs.drop (k+1) := by
      have hk := lt_of_get h
      rw [List.getElem?_eq_getElem hk] at h
      rw [List.drop_eq_getElem_cons hk]
      simp at h
      rw [h]
    rw [hd]
    simp [Tm.chkL, ha]
theorem firstErr_get {xs : List Tm} {k : Nat} {a : Tm} (h : xs[k]? = some a) (h0 : firstErr (xs.take k) = 0) : (chkOne a = 0 → firstErr (xs.take (k+1)) = 0) ∧ (chkOne a ≠ 0 → firstErr xs = chkOne a) := by
  constructor
  · intro ha
    rw [take_snoc h, firstErr_append, if_pos h0]
    simp [firstErr, ha]
  · intro ha
    rw [← List.take_append_drop k xs, firstErr_append, if_pos h0]
    have hd : xs.drop k = a :: xs.drop (k+1) := by
      have hk := lt_of_get h
      rw [List.getElem?_eq_getElem hk] at h
      rw [List.drop_eq_getElem_cons hk]
      simp at h
      rw [h]
    rw [hd]
    simp [firstErr, ha]
/-- may it be? 0: yes; else what is wrong. -/
def Tm.may (t : Tm) : Int := if 200 < t.size then 3 else t.chk
theorem chkOne_range (t : Tm) : 0 ≤ chkOne t ∧ chkOne t ≤ 2 := by unfold chkOne; split <;> (try split) <;> omega
mutual
theorem Tm.chk_range : ∀ t : Tm, 0 ≤ t.chk ∧ t.chk ≤ 2
  | .mk n xs => by
    have h1 := chkOne_range (.mk n xs)
    have h2 := Tm.chkL_range xs
    simp only [Tm.chk]
    split <;> omega
theorem Tm.chkL_range : ∀ xs : List Tm, 0 ≤ Tm.chkL xs ∧ Tm.chkL xs ≤ 2
  | [] => by simp [Tm.chkL]
  | t :: ts => by
    have h1 := Tm.chk_range t
    have h2 := Tm.chkL_range ts
    simp only [Tm.chkL]
    split <;> omega
end
theorem Tm.may_range (t : Tm) : 0 ≤ t.may ∧ t.may ≤ 3 := by
  have := Tm.chk_range t
  unfold Tm.may
  split <;> omega
theorem ne_true {a : Int} (h : a ≠ 0) : (a != 0) = true := by simpa using h
theorem eq_false' {a : Int} (h : a ≠ 0) : (a == 0) = false := by simpa using h


def isIn (x : ByteArray) (l : List ByteArray) : Bool := l.any fun y => decide (y = x)
theorem isIn_iff {x : ByteArray} {l : List ByteArray} : isIn x l = true ↔ x ∈ l := by simp [isIn]
theorem isIn_no {x : ByteArray} {l : List ByteArray} : isIn x l = false ↔ x ∉ l := by rw [← Bool.not_eq_true, isIn_iff]


/-- one name more, if it is a variable's and new -/
def addVar (l : List ByteArray) (n : ByteArray) : List ByteArray := if isVar n && !isIn n l then l ++ [n] else l
def addVars (l : List ByteArray) (ks : List Tm) : List ByteArray := ks.foldl (fun l t => addVar l t.name) l
def Tm.varsOf (t : Tm) : List ByteArray := addVars [] t.knots
theorem addVars_nil (l : List ByteArray) : addVars l [] = l := rfl
theorem addVars_snoc (l : List ByteArray) (ks : List Tm) (t : Tm) : addVars l (ks ++ [t]) = addVar (addVars l ks) t.name := by simp [addVars]
theorem addVars_append (l : List ByteArray) (ks ms : List Tm) : addVars l (ks ++ ms) = addVars (addVars l ks) ms := by simp [addVars]
theorem addVar_yes {l : List ByteArray} {n : ByteArray} (h : isVar n = true) (h' : isIn n l = false) : addVar l n = l ++ [n] := by simp [addVar, h, h']
theorem addVar_in {l : List ByteArray} {n : ByteArray} (h' : isIn n l = true) : addVar l n = l := by simp [addVar, h']
theorem addVar_no {l : List ByteArray} {n : ByteArray} (h : isVar n = false) : addVar l n = l := by simp [addVar, h]
theorem addVar_length (l : List ByteArray) (n : ByteArray) : (addVar l n).length ≤ l.length + 1 := by unfold addVar; split <;> simp
theorem addVars_length : ∀ (ks : List Tm) (l : List ByteArray), (addVars l ks).length ≤ l.length + ks.length
  | [], l => by simp [addVars_nil]
  | t :: ts, l => by
    have h1 := addVars_length ts (addVar l t.name)
    have h2 := addVar_length l t.name
    have h3 : addVars l (t :: ts) = addVars (addVar l t.name) ts := rfl
    rw [h3, List.length_cons]
    omega



mutual
def Tm.places : Tm → List (List Int)
  | .mk _ xs => [] :: Tm.placesFrom 0 xs
def Tm.placesFrom : Nat → List Tm → List (List Int)
  | _, [] => []
  | k, t :: ts => t.places.map (fun p => (k : Int) :: p) ++ Tm.placesFrom (k+1) ts
end
theorem Tm.places_eq (t : Tm) : t.places = [] :: Tm.placesFrom 0 t.args := by cases t; rfl
theorem Tm.placesFrom_snoc (a : Tm) : ∀ (k : Nat) (xs : List Tm), Tm.placesFrom k (xs ++ [a]) = Tm.placesFrom k xs ++ a.places.map (fun p => ((k + xs.length : Nat) : Int) :: p)
  | k, [] => by simp [Tm.placesFrom]
  | k, t :: ts => by
    rw [List.cons_append, Tm.placesFrom, Tm.placesFrom_snoc a (k+1) ts, Tm.placesFrom, List.length_cons, show k + 1 + ts.length = k + (ts.length + 1) by omega, List.append_assoc]
/-- the places ahead of those within the k-th argument -/
def Tm.placesTo (t : Tm) (k : Nat) : List (List Int) := [] :: Tm.placesFrom 0 (t.args.take k)
theorem Tm.placesTo_zero (t : Tm) : t.placesTo 0 = [[]] := rfl
theorem Tm.placesTo_succ {t : Tm} {k : Nat} {a : Tm} (h : t.args[k]? = some a) : t.placesTo (k+1) = t.placesTo k ++ a.places.map (fun p => (k : Int) :: p) := by
  have hl := lt_of_get h
  unfold Tm.placesTo
  rw [take_snoc h, Tm.placesFrom_snoc, List.length_take, Nat.min_eq_left (by omega), Nat.zero_add, List.cons_append]
theorem Tm.placesTo_all {t : Tm} {k : Nat} (h : k = t.args.length) : t.placesTo k = t.places := by
  subst h
  rw [Tm.places_eq, Tm.placesTo, List.take_length]
mutual
theorem Tm.places_length : ∀ t : Tm, t.places.length = t.size
  | .mk n xs => by simp only [Tm.places, Tm.size, List.length_cons, Tm.placesFrom_length 0 xs]; omega
theorem Tm.placesFrom_length : ∀ (k : Nat) (xs : List Tm), (Tm.placesFrom k xs).length = Tm.sizes xs
  | _, [] => rfl
  | k, t :: ts => by simp only [Tm.placesFrom, Tm.sizes, List.length_append, List.length_map, Tm.places_length t, Tm.placesFrom_length (k+1) ts]
end
mutual
theorem Tm.places_deep : ∀ (t : Tm) (p : List Int), p ∈ t.places → p.length ≤ t.size
  | .mk n xs, p, h => by
    simp only [Tm.places, List.mem_cons] at h
    rcases h with rfl | h
    · simp
    · have := Tm.placesFrom_deep 0 xs p h
      simp only [Tm.size]
      omega
theorem Tm.placesFrom_deep : ∀ (k : Nat) (xs : List Tm) (p : List Int), p ∈ Tm.placesFrom k xs → p.length ≤ 1 + Tm.sizes xs
  | _, [], p, h => by simp [Tm.placesFrom] at h
  | k, t :: ts, p, h => by
    simp only [Tm.placesFrom, List.mem_append, List.mem_map] at h
    simp only [Tm.sizes]
    rcases h with ⟨q, hq, rfl⟩ | h
    · have := Tm.places_deep t q hq
      simp only [List.length_cons]
      omega
    · have := Tm.placesFrom_deep (k+1) ts p h
      omega
end
theorem Tm.placesTo_length (t : Tm) (k : Nat) : (t.placesTo k).length = 1 + Tm.sizes (t.args.take k) := by
  rw [Tm.placesTo, List.length_cons, Tm.placesFrom_length]; omega


theorem lessBy_step {s z : Nat} {m : Int} (h : 0 ≤ lessBy s m) : lessBy z (lessBy s m) = lessBy (s + z) m := by
  unfold lessBy at *
  split at h
  · omega
  · rename_i h1
    rw [if_neg h1]
    split <;> split <;> omega
theorem lessBy_neg {s z : Nat} {m : Int} (h : lessBy s m < 0) (hz : s ≤ z) : lessBy s m = lessBy z m := by
  unfold lessBy at *
  split at h
  · rw [if_pos (by assumption), if_pos (by omega)]
  · omega
theorem lessBy_le (s : Nat) (m : Int) (h : 0 ≤ m) : -1 ≤ lessBy s m ∧ lessBy s m ≤ m := by unfold lessBy; split <;> omega
theorem capTo_step {s z : Nat} {m : Int} (h : (s : Int) ≤ m) : (s : Int) + capTo z (m - s) = capTo (s + z) m := by
  unfold capTo
  split <;> split <;> omega
theorem capTo_over {s z : Nat} {m : Int} (h : m < capTo s m) (hz : s ≤ z) : capTo z m = m + 1 := by
  unfold capTo at *
  split at h <;> split <;> omega
theorem capTo_le (s : Nat) (m : Int) (h : 0 ≤ m) : 0 ≤ capTo s m ∧ capTo s m ≤ m + 1 := by unfold capTo; split <;> omega
theorem capTo_in {s : Nat} {m : Int} (h : ¬ m < capTo s m) : capTo s m = s ∧ (s : Int) ≤ m := by
  unfold capTo at *
  split at h
  · omega
  · rename_i h2
    rw [if_neg h2]
    omega
end Go.Proofs.YtbiadmlfejnbcaaGreatDoor

namespace Go.Proofs.YtbiadmlfejnbcaaGreatDoor
open Go Go.RowKit
set_option linter.unusedVariables false

def apS : ByteArray := ⟨#[97, 112]⟩
/-- what is wrong with a knot's form -/
def fmOne (t : Tm) : Bool := t.args.isEmpty || (decide (t.name = apS) && decide (t.args.length = 2))
mutual
def Tm.fm : Tm → Bool
  | .mk n xs => fmOne (.mk n xs) && Tm.fms xs
def Tm.fms : List Tm → Bool
  | [] => true
  | t :: ts => t.fm && Tm.fms ts
end
theorem Tm.fm_eq (t : Tm) : t.fm = (fmOne t && Tm.fms t.args) := by cases t; rfl
theorem Tm.fms_append (xs ys : List Tm) : Tm.fms (xs ++ ys) = (Tm.fms xs && Tm.fms ys) := by
  induction xs with
  | nil => simp [Tm.fms]
  | cons x xs ih => simp [Tm.fms, ih, Bool.and_assoc]
theorem Tm.fms_iff {xs : List Tm} : Tm.fms xs = true ↔ ∀ t ∈ xs, t.fm = true := by
  induction xs with
  | nil => simp [Tm.fms]
  | cons x xs ih => simp [Tm.fms, ih]
mutual
theorem Tm.fm_knots : ∀ t : Tm, t.fm = t.knots.all fmOne
  | .mk n xs => by rw [Tm.fm, Tm.knots, List.all_cons, Tm.fms_knots xs]
theorem Tm.fms_knots : ∀ xs : List Tm, Tm.fms xs = (Tm.knotsL xs).all fmOne
  | [] => rfl
  | t :: ts => by rw [Tm.fms, Tm.knotsL, List.all_append, Tm.fm_knots t, Tm.fms_knots ts]
end
/-- A term of that form is a leaf, or one put to another. -/
theorem Tm.fm_cases {t : Tm} (h : t.fm = true) : t.args = [] ∨ ∃ f x, t.name = apS ∧ t.args = [f, x] ∧ f.fm = true ∧ x.fm = true := by
  rw [Tm.fm_eq, Bool.and_eq_true] at h
  obtain ⟨h1, h2⟩ := h
  unfold fmOne at h1
  rw [Bool.or_eq_true, Bool.and_eq_true] at h1
  rcases h1 with h1 | ⟨h1, h3⟩
  · exact Or.inl (by simpa using h1)
  · have h3 : t.args.length = 2 := by simpa using h3
    match hx : t.args, h3 with
    | [f, x], _ =>
      rw [hx] at h2
      have := Tm.fms_iff.1 h2
      exact Or.inr ⟨f, x, by simpa using h1, rfl, this f (by simp), this x (by simp)⟩
def ap2 (f x : Tm) : Tm := .mk apS [f, x]
theorem ap2_fm {f x : Tm} (hf : f.fm = true) (hx : x.fm = true) : (ap2 f x).fm = true := by
  simp [ap2, Tm.fm, fmOne, Tm.fms, hf, hx, Tm.name_mk, Tm.args_mk]
theorem ap2_size (f x : Tm) : (ap2 f x).size = 1 + f.size + x.size := by
  simp only [ap2, Tm.size, Tm.sizes]
  omega

/-! ### rows -/
mutual
def Tm.hd : Tm → Tm
  | .mk n xs => match Tm.hdL xs with | some h => h | none => .mk n xs
def Tm.hdL : List Tm → Option Tm
  | [] => none
  | f :: _ => some f.hd
end
mutual
def Tm.rw_ : Tm → List Tm
  | .mk n xs => match Tm.rwL xs, xs with
    | some l, _ :: x :: _ => l ++ [x]
    | _, _ => []
def Tm.rwL : List Tm → Option (List Tm)
  | [] => none
  | f :: _ => some f.rw_
end
theorem Tm.hd_leaf {t : Tm} (h : t.args = []) : t.hd = t := by
  cases t
  rw [Tm.args_mk] at h
  subst h
  rfl
theorem Tm.hd_ap {t f x : Tm} (h : t.args = [f, x]) : t.hd = f.hd := by
  cases t
  rw [Tm.args_mk] at h
  subst h
  rw [Tm.hd, Tm.hdL]
theorem Tm.rw_leaf {t : Tm} (h : t.args = []) : t.rw_ = [] := by
  cases t
  rw [Tm.args_mk] at h
  subst h
  rfl
theorem Tm.rw_ap {t f x : Tm} (h : t.args = [f, x]) : t.rw_ = f.rw_ ++ [x] := by
  cases t
  rw [Tm.args_mk] at h
  subst h
  simp only [Tm.rw_, Tm.rwL]
def aps (h : Tm) (l : List Tm) : Tm := l.foldl ap2 h
theorem Tm.row_fm : ∀ (N : Nat) (t : Tm), SizeOf.sizeOf t < N → t.fm = true → t.hd.args = [] ∧ (∀ x ∈ t.rw_, x.fm = true) ∧ t.size = t.hd.size + Tm.sizes t.rw_ + t.rw_.length ∧ aps t.hd t.rw_ = t := by
  intro N
  induction N with
  | zero => intro t h; omega
  | succ N ih =>
    intro t hN h
    rcases Tm.fm_cases h with ha | ⟨f, x, hn, ha, hf, hx⟩
    · rw [Tm.hd_leaf ha, Tm.rw_leaf ha]
      refine ⟨ha, fun x hx => by simp at hx, by simp [Tm.sizes], rfl⟩
    · have hlt : SizeOf.sizeOf f < SizeOf.sizeOf t := Tm.lt_of_arg (by rw [ha]; simp)
      obtain ⟨a1, a2, a3, a4⟩ := ih f (by omega) hf
      rw [Tm.hd_ap ha, Tm.rw_ap ha]
      refine ⟨a1, fun y hy => ?_, ?_, ?_⟩
      · rcases List.mem_append.1 hy with hy | hy
        · exact a2 y hy
        · have : y = x := by simpa using hy
          subst this
          exact hx
      · rw [Tm.size_eq t, ha, Tm.sizes_append, List.length_append]
        simp only [Tm.sizes, List.length_cons, List.length_nil]
        omega
      · unfold aps at a4 ⊢
        rw [List.foldl_append, a4]
        cases t
        rw [Tm.args_mk] at ha
        rw [Tm.name_mk] at hn
        subst ha
        subst hn
        rfl
theorem Tm.hd_noargs {t : Tm} (h : t.fm = true) : t.hd.args = [] := (Tm.row_fm _ t (Nat.lt_succ_self _) h).1
theorem Tm.rw_fm {t : Tm} (h : t.fm = true) : ∀ x ∈ t.rw_, x.fm = true := (Tm.row_fm _ t (Nat.lt_succ_self _) h).2.1
theorem Tm.rw_size {t : Tm} (h : t.fm = true) : t.size = t.hd.size + Tm.sizes t.rw_ + t.rw_.length := (Tm.row_fm _ t (Nat.lt_succ_self _) h).2.2.1
theorem aps_fm : ∀ {l : List Tm} {h : Tm}, h.fm = true → (∀ x ∈ l, x.fm = true) → (aps h l).fm = true
  | [], h, hh, _ => hh
  | x :: l, h, hh, hl => aps_fm (l := l) (ap2_fm hh (hl x (by simp))) fun y hy => hl y (by simp [hy])
theorem aps_size : ∀ (l : List Tm) (h : Tm), (aps h l).size = h.size + Tm.sizes l + l.length
  | [], h => by simp [aps, Tm.sizes]
  | x :: l, h => by
    have := aps_size l (ap2 h x)
    rw [ap2_size] at this
    show (aps (ap2 h x) l).size = _
    rw [this, Tm.sizes, List.length_cons]
    omega
theorem aps_snoc (h : Tm) (l : List Tm) (x : Tm) : aps h (l ++ [x]) = ap2 (aps h l) x := by simp [aps]
theorem leaf_fm {h : Tm} (ha : h.args = []) : h.fm = true := by
  rw [Tm.fm_eq, ha]
  simp [fmOne, ha, Tm.fms]

/-! ### one step -/
def iS : ByteArray := ⟨#[105]⟩
def kS : ByteArray := ⟨#[107]⟩
def sS : ByteArray := ⟨#[115]⟩
/-- What a row's front becomes, and how many it takes. -/
def redOf (n : ByteArray) (l : List Tm) : Option (Tm × Nat) :=
  if n = iS then (match l with | x :: _ => some (x, 1) | _ => none)
  else if n = kS then (match l with | x :: _ :: _ => some (x, 2) | _ => none)
  else if n = sS then (match l with | x :: y :: z :: _ => some (ap2 (ap2 x z) (ap2 y z), 3) | _ => none)
  else none
def firstBy (f : Tm → Option Tm) : List Tm → Option (Nat × Tm)
  | [] => none
  | t :: ts => match f t with
    | some x => some (0, x)
    | none => (firstBy f ts).map fun p => (p.1 + 1, p.2)
theorem firstBy_congr {f g : Tm → Option Tm} : ∀ {l : List Tm}, (∀ x ∈ l, f x = g x) → firstBy f l = firstBy g l
  | [], _ => rfl
  | t :: ts, h => by
    rw [firstBy, firstBy, h t (by simp), firstBy_congr (l := ts) fun x hx => h x (by simp [hx])]
theorem firstBy_none {f : Tm → Option Tm} {l : List Tm} {k : Nat} {a : Tm} (ha : l[k]? = some a) (h : firstBy f (l.take k) = none) (hn : f a = none) : firstBy f (l.take (k + 1)) = none := by
  induction l generalizing k with
  | nil => simp at ha
  | cons x xs ih =>
    cases k with
    | zero =>
      have : x = a := by simpa using ha
      subst this
      simp [firstBy, hn]
    | succ k =>
      rw [List.take_succ_cons, firstBy] at h ⊢
      split at h
      · cases h
      · rename_i hx
        have h2 : firstBy f (xs.take k) = none := by simpa using h
        rw [ih (by simpa using ha) h2]
        rfl
theorem firstBy_some {f : Tm → Option Tm} {l : List Tm} {k : Nat} {a y : Tm} (ha : l[k]? = some a) (h : firstBy f (l.take k) = none) (hy : f a = some y) : firstBy f l = some (k, y) := by
  induction l generalizing k with
  | nil => simp at ha
  | cons x xs ih =>
    cases k with
    | zero =>
      have : x = a := by simpa using ha
      subst this
      simp [firstBy, hy]
    | succ k =>
      rw [List.take_succ_cons, firstBy] at h
      split at h
      · cases h
      · rename_i hx
        have h2 : firstBy f (xs.take k) = none := by simpa using h
        rw [firstBy, hx, ih (by simpa using ha) h2]
        rfl
theorem firstBy_get {f : Tm → Option Tm} : ∀ {l : List Tm} {i : Nat} {y : Tm}, firstBy f l = some (i, y) → ∃ a, l[i]? = some a ∧ f a = some y
  | [], _, _, h => by cases h
  | t :: ts, i, y, h => by
    rw [firstBy] at h
    split at h
    · rename_i x hx
      cases h
      exact ⟨t, rfl, hx⟩
    · rw [Option.map_eq_some_iff] at h
      obtain ⟨⟨j, z⟩, h1, h2⟩ := h
      cases h2
      obtain ⟨a, a1, a2⟩ := firstBy_get h1
      exact ⟨a, by simpa using a1, a2⟩
def Tm.stepF : Nat → Tm → Option Tm
  | 0, _ => none
  | k + 1, t => match redOf t.hd.name t.rw_ with
    | some (y, u) => some (aps y (t.rw_.drop u))
    | none => (firstBy (Tm.stepF k) t.rw_).map fun p => aps t.hd (t.rw_.set p.1 p.2)
theorem Tm.rw_lt {t x : Tm} (h : t.fm = true) (hx : x ∈ t.rw_) : x.size < t.size := by
  have h1 := Tm.rw_size h
  have h2 := Tm.size_mem hx
  have h3 := Tm.size_pos t.hd
  omega
theorem Tm.stepF_fuel : ∀ (k m : Nat) (t : Tm), t.fm = true → t.size ≤ k → t.size ≤ m → Tm.stepF k t = Tm.stepF m t := by
  intro k
  induction k with
  | zero => intro m t _ h; have := Tm.size_pos t; omega
  | succ k ih =>
    intro m t hf h1 h2
    cases m with
    | zero => have := Tm.size_pos t; omega
    | succ m =>
      rw [Tm.stepF, Tm.stepF, firstBy_congr (g := Tm.stepF m) fun x hx => ih m x (Tm.rw_fm hf x hx) (by have := Tm.rw_lt hf hx; omega) (by have := Tm.rw_lt hf hx; omega)]
def Tm.step (t : Tm) : Option Tm := Tm.stepF t.size t
theorem Tm.step_red {t y : Tm} {u : Nat} (h : redOf t.hd.name t.rw_ = some (y, u)) : t.step = some (aps y (t.rw_.drop u)) := by
  unfold Tm.step
  have := Tm.size_pos t
  obtain ⟨n, hn⟩ : ∃ n, t.size = n + 1 := ⟨t.size - 1, by omega⟩
  rw [hn, Tm.stepF, h]
theorem Tm.step_in {t : Tm} (hf : t.fm = true) (h : redOf t.hd.name t.rw_ = none) : t.step = (firstBy Tm.step t.rw_).map fun p => aps t.hd (t.rw_.set p.1 p.2) := by
  unfold Tm.step
  have := Tm.size_pos t
  obtain ⟨n, hn⟩ : ∃ n, t.size = n + 1 := ⟨t.size - 1, by omega⟩
  rw [hn, Tm.stepF, h]
  simp only
  rw [firstBy_congr (g := fun t => Tm.stepF t.size t) fun x hx => Tm.stepF_fuel n x.size x (Tm.rw_fm hf x hx) (by have := Tm.rw_lt hf hx; omega) (Nat.le_refl _)]
theorem redOf_some {n : ByteArray} {l : List Tm} {y : Tm} {u : Nat} (h : redOf n l = some (y, u)) : (n = iS ∧ u = 1 ∧ ∃ r, l = y :: r) ∨ (n = kS ∧ u = 2 ∧ ∃ a r, l = y :: a :: r) ∨ (n = sS ∧ u = 3 ∧ ∃ a b c r, l = a :: b :: c :: r ∧ y = ap2 (ap2 a c) (ap2 b c)) := by
  unfold redOf at h
  split at h
  · rename_i h1
    split at h
    · cases h; exact Or.inl ⟨h1, rfl, _, rfl⟩
    · cases h
  · split at h
    · rename_i h1
      split at h
      · cases h; exact Or.inr (Or.inl ⟨h1, rfl, _, _, rfl⟩)
      · cases h
    · split at h
      · rename_i h1
        split at h
        · cases h; exact Or.inr (Or.inr ⟨h1, rfl, _, _, _, _, rfl, rfl⟩)
        · cases h
      · cases h
theorem drop_fm {l : List Tm} {u : Nat} (h : ∀ x ∈ l, x.fm = true) : ∀ x ∈ l.drop u, x.fm = true := fun x hx => h x (List.mem_of_mem_drop hx)
theorem Tm.sizes_set : ∀ {l : List Tm} {i : Nat} {a y : Tm}, l[i]? = some a → Tm.sizes (l.set i y) + a.size = Tm.sizes l + y.size
  | [], i, _, _, h => by simp at h
  | x :: xs, 0, a, y, h => by
    have : x = a := by simpa using h
    subst this
    simp only [List.set_cons_zero, Tm.sizes]
    omega
  | x :: xs, i + 1, a, y, h => by
    have := Tm.sizes_set (l := xs) (i := i) (a := a) (y := y) (by simpa using h)
    simp only [List.set_cons_succ, Tm.sizes]
    omega
theorem Tm.step_all : ∀ (N : Nat) (t y : Tm), t.size < N → t.fm = true → t.step = some y → y.fm = true ∧ y.size ≤ 2 * t.size := by
  intro N
  induction N with
  | zero => intro t y h; omega
  | succ N ih =>
    intro t y hN hf hy
    have hsz := Tm.rw_size hf
    have hrf := Tm.rw_fm hf
    have hh := Tm.size_pos t.hd
    cases hr : redOf t.hd.name t.rw_ with
    | some p =>
      obtain ⟨z, u⟩ := p
      rw [Tm.step_red hr] at hy
      cases hy
      rw [aps_size]
      rcases redOf_some hr with ⟨_, rfl, r, hl⟩ | ⟨_, rfl, a, r, hl⟩ | ⟨_, rfl, a, b, c, r, hl, rfl⟩
      · rw [hl] at hsz hrf ⊢
        refine ⟨aps_fm (hrf z (by simp)) (fun x hx => hrf x (by simp at hx; simp [hx])), ?_⟩
        simp only [Tm.sizes, List.length_cons, List.drop_succ_cons, List.drop_zero] at hsz ⊢
        omega
      · rw [hl] at hsz hrf ⊢
        refine ⟨aps_fm (hrf z (by simp)) (fun x hx => hrf x (by simp at hx; simp [hx])), ?_⟩
        simp only [Tm.sizes, List.length_cons, List.drop_succ_cons, List.drop_zero] at hsz ⊢
        omega
      · rw [hl] at hsz hrf ⊢
        refine ⟨aps_fm (ap2_fm (ap2_fm (hrf a (by simp)) (hrf c (by simp))) (ap2_fm (hrf b (by simp)) (hrf c (by simp)))) (fun x hx => hrf x (by simp at hx; simp [hx])), ?_⟩
        simp only [Tm.sizes, List.length_cons, List.drop_succ_cons, List.drop_zero, ap2_size] at hsz ⊢
        omega
    | none =>
      rw [Tm.step_in hf hr, Option.map_eq_some_iff] at hy
      obtain ⟨⟨i, z⟩, h1, rfl⟩ := hy
      obtain ⟨a, a1, a2⟩ := firstBy_get h1
      have ham : a ∈ t.rw_ := List.mem_of_getElem? a1
      obtain ⟨b1, b2⟩ := ih a z (by have := Tm.rw_lt hf ham; omega) (hrf a ham) a2
      refine ⟨aps_fm (leaf_fm (Tm.hd_noargs hf)) (fun x hx => ?_), ?_⟩
      · rcases List.mem_or_eq_of_mem_set hx with hx | rfl
        · exact hrf x hx
        · exact b1
      · rw [aps_size, List.length_set]
        have h2 := Tm.sizes_set (y := z) a1
        have h3 := Tm.size_mem ham
        simp only
        omega

/-! ### steps, till there is none -/
def Tm.run : Nat → Int → Tm → Tm × Int × Int
  | left, n, t => match t.step with
    | none => (t, n, 0)
    | some x => match left with
      | 0 => (.mk ⟨#[]⟩ [], 0, 9)
      | left + 1 => if 2000 < x.size then (.mk ⟨#[]⟩ [], 0, 8) else Tm.run left (n + 1) x
theorem Tm.run_none {left : Nat} {n : Int} {t : Tm} (h : t.step = none) : Tm.run left n t = (t, n, 0) := by
  cases left <;> (rw [Tm.run]; simp only [h])
theorem Tm.run_zero {n : Int} {t x : Tm} (h : t.step = some x) : Tm.run 0 n t = (.mk ⟨#[]⟩ [], 0, 9) := by rw [Tm.run]; simp only [h]
theorem Tm.run_succ {left : Nat} {n : Int} {t x : Tm} (h : t.step = some x) : Tm.run (left + 1) n t = if 2000 < x.size then (.mk ⟨#[]⟩ [], 0, 8) else Tm.run left (n + 1) x := by rw [Tm.run]; simp only [h]
end Go.Proofs.YtbiadmlfejnbcaaGreatDoor

namespace Go.Proofs.YtbiadmlfejnbcaaGreatDoor
open Go Go.RowKit
set_option linter.unusedVariables false

inductive Lm where
  | mk (kind idx : Int) (subs : List Lm)
def Lm.kind : Lm → Int | .mk k _ _ => k
def Lm.idx : Lm → Int | .mk _ i _ => i
def Lm.subs : Lm → List Lm | .mk _ _ xs => xs
theorem Lm.kind_mk (k i : Int) (xs : List Lm) : (Lm.mk k i xs).kind = k := rfl
theorem Lm.idx_mk (k i : Int) (xs : List Lm) : (Lm.mk k i xs).idx = i := rfl
theorem Lm.subs_mk (k i : Int) (xs : List Lm) : (Lm.mk k i xs).subs = xs := rfl
theorem Lm.eta (t : Lm) : Lm.mk t.kind t.idx t.subs = t := by cases t; rfl
mutual
def encL : Lm → List SV
  | .mk k i xs => [.int .i64 k, .int .i64 i, .list (encLs xs)]
def encLs : List Lm → List (List SV)
  | [] => []
  | t :: ts => encL t :: encLs ts
end
theorem encLs_eq : ∀ xs : List Lm, encLs xs = xs.map encL
  | [] => rfl
  | t :: ts => by rw [encLs, encLs_eq ts]; rfl
theorem encL_eq (t : Lm) : encL t = [.int .i64 t.kind, .int .i64 t.idx, .list (t.subs.map encL)] := by
  cases t
  rw [encL, encLs_eq]
  rfl
theorem len_encL (t : Lm) : (encL t).length = 3 := by rw [encL_eq]; rfl
theorem lens_encL {ts : List Lm} : ∀ x ∈ ts.map encL, x.length = 3 := by
  intro x hx
  obtain ⟨a, _, rfl⟩ := List.mem_map.1 hx
  exact len_encL a
abbrev aLm (t : Lm) : AV := .agg [.st (.int .i64 t.kind), .st (.int .i64 t.idx), .st (.list (t.subs.map encL))]
abbrev aLms (l : List Lm) : AV := .one (.st (.list (l.map encL)))
theorem known_lm {S : AStore} {t : Lm} (h : (aLm t).known S) : (-9223372036854775808 ≤ t.kind ∧ t.kind ≤ 9223372036854775807) ∧ (-9223372036854775808 ≤ t.idx ∧ t.idx ≤ 9223372036854775807) ∧ t.subs.length ≤ 9223372036854775807 := by
  have h1 : inR .i64 t.kind := by
    have := h (.st (.int .i64 t.kind)) (by simp)
    simpa [AC.known, SV.known] using this
  have h2 : inR .i64 t.idx := by
    have := h (.st (.int .i64 t.idx)) (by simp)
    simpa [AC.known, SV.known] using this
  have h3 : t.subs.length ≤ maxLen := by
    have := h (.st (.list (t.subs.map encL))) (by simp)
    simp only [AC.known, SV.known, List.length_map] at this
    exact this.1
  rw [inR_i64] at h1 h2
  rw [maxLen_eq] at h3
  exact ⟨h1, h2, h3⟩
theorem Lm.lt_of_mem {a : Lm} {k i : Int} {xs : List Lm} (h : a ∈ xs) : SizeOf.sizeOf a < SizeOf.sizeOf (Lm.mk k i xs) := by
  have := List.sizeOf_lt_of_mem h
  simp only [Lm.mk.sizeOf_spec]
  omega
theorem Lm.lt_of_sub {a t : Lm} (h : a ∈ t.subs) : SizeOf.sizeOf a < SizeOf.sizeOf t := by
  cases t
  exact Lm.lt_of_mem h

attribute [go_sem] Lm.kind_mk Lm.idx_mk Lm.subs_mk encL_eq
/-! ### sizes -/
mutual
def Lm.size : Lm → Nat
  | .mk _ _ xs => 1 + Lm.sizes xs
def Lm.sizes : List Lm → Nat
  | [] => 0
  | t :: ts => t.size + Lm.sizes ts
end
theorem Lm.sizes_append (xs ys : List Lm) : Lm.sizes (xs ++ ys) = Lm.sizes xs + Lm.sizes ys := by
  induction xs with
  | nil => simp [Lm.sizes]
  | cons t ts ih => simp only [List.cons_append, Lm.sizes, ih]; omega
theorem Lm.sizes_take {xs : List Lm} {k : Nat} {a : Lm} (h : xs[k]? = some a) : Lm.sizes (xs.take (k+1)) = Lm.sizes (xs.take k) + a.size := by
  rw [take_snoc h, Lm.sizes_append]; simp [Lm.sizes]
theorem Lm.sizes_take_le (xs : List Lm) (k : Nat)  : Lm.sizes (xs.take k) ≤ Lm.sizes xs := by
  have := Lm.sizes_append (xs.take k) (xs.drop k)
  rw [List.take_append_drop] at this
  omega
theorem Lm.size_eq (t : Lm) : t.size = 1 + Lm.sizes t.subs := by cases t; rfl
theorem Lm.size_pos (t : Lm) : 1 ≤ t.size := by rw [Lm.size_eq]; omega
theorem Lm.size_mem {a : Lm} {xs : List Lm} (h : a ∈ xs) : a.size ≤ Lm.sizes xs := by
  induction xs with
  | nil => simp at h
  | cons t ts ih =>
    rcases List.mem_cons.1 h with rfl | h
    · simp only [Lm.sizes]; omega
    · have := ih h; simp only [Lm.sizes]; omega
theorem Lm.size_sub {a t : Lm} (h : a ∈ t.subs) : a.size + 1 ≤ t.size := by
  have := Lm.size_mem h
  rw [Lm.size_eq t]
  omega
theorem Lm.length_le (xs : List Lm) : xs.length ≤ Lm.sizes xs := by
  induction xs with
  | nil => simp [Lm.sizes]
  | cons t ts ih => have := Lm.size_pos t; simp only [Lm.sizes, List.length_cons]; omega

/-! ### what may be -/
/-- how many are below a knot of a kind -/
def nSubs (k : Int) : Int := if k = 2 then 1 else if k = 3 then 2 else 0
/-- the first number that is too great -/
def mostIdx (k u m : Int) : Int := if k = 1 then u else if k = 4 then 40 else if k = 5 then m else 1
/-- how many binders stand around what is below -/
def under (k u : Int) : Int := if k = 2 then u + 1 else u
mutual
def Lm.chk (m : Int) : Lm → Int → Int
  | .mk k i xs, u => if 1 ≤ k ∧ k ≤ 5 ∧ (xs.length : Int) = nSubs k then (if 0 ≤ i ∧ i < mostIdx k u m then Lm.chks m xs (under k u) else 15) else 2
def Lm.chks (m : Int) : List Lm → Int → Int
  | [], _ => 0
  | t :: ts, u => if t.chk m u = 0 then Lm.chks m ts u else t.chk m u
end
theorem Lm.chk_eq (m : Int) (t : Lm) (u : Int) : t.chk m u = if 1 ≤ t.kind ∧ t.kind ≤ 5 ∧ (t.subs.length : Int) = nSubs t.kind then (if 0 ≤ t.idx ∧ t.idx < mostIdx t.kind u m then Lm.chks m t.subs (under t.kind u) else 15) else 2 := by cases t; rfl
theorem Lm.chks_append (m u : Int) (xs ys : List Lm) : Lm.chks m (xs ++ ys) u = if Lm.chks m xs u = 0 then Lm.chks m ys u else Lm.chks m xs u := by
  induction xs with
  | nil => simp [Lm.chks]
  | cons t ts ih =>
    simp only [List.cons_append, Lm.chks]
    by_cases h : t.chk m u = 0
    · simp only [h, if_true, ih]
    · simp only [h, if_false]
theorem Lm.chks_take {m u : Int} {xs : List Lm} {k : Nat} {a : Lm} (h : xs[k]? = some a) (h0 : Lm.chks m (xs.take k) u = 0) : Lm.chks m (xs.take (k+1)) u = a.chk m u := by
  rw [take_snoc h, Lm.chks_append, if_pos h0]
  simp only [Lm.chks]
  split <;> simp_all
theorem Lm.chks_bad {m u : Int} {xs : List Lm} {k : Nat} (h0 : Lm.chks m (xs.take k) u ≠ 0) : Lm.chks m xs u = Lm.chks m (xs.take k) u := by
  have := Lm.chks_append m u (xs.take k) (xs.drop k)
  rw [List.take_append_drop, if_neg h0] at this
  exact this

/-! ### terms of a form, with no great numbers -/
mutual
def Lm.good (b : Int) : Lm → Prop
  | .mk k i xs => (k = 1 → xs = []) ∧ 0 ≤ i ∧ i ≤ b ∧ Lm.goods b xs
def Lm.goods (b : Int) : List Lm → Prop
  | [] => True
  | t :: ts => t.good b ∧ Lm.goods b ts
end
theorem Lm.good_eq (b : Int) (t : Lm) : t.good b ↔ ((t.kind = 1 → t.subs = []) ∧ 0 ≤ t.idx ∧ t.idx ≤ b ∧ Lm.goods b t.subs) := by cases t; exact Iff.rfl
theorem Lm.goods_mem {b : Int} {xs : List Lm} (h : Lm.goods b xs) : ∀ t ∈ xs, t.good b := by
  induction xs with
  | nil => intro t ht; simp at ht
  | cons x xs ih =>
    intro t ht
    rcases List.mem_cons.1 ht with rfl | ht
    · exact h.1
    · exact ih h.2 t ht
theorem Lm.good_sub {b : Int} {t a : Lm} (h : t.good b) (ha : a ∈ t.subs) : a.good b := Lm.goods_mem ((Lm.good_eq b t).1 h).2.2.2 a ha
mutual
theorem Lm.good_chk {m : Int} (h1 : m ≤ 40) : ∀ (t : Lm) (u b : Int), 0 ≤ u → u + t.size ≤ b → 40 ≤ b → t.chk m u = 0 → t.good b
  | .mk k i xs, u, b, hu, hb, hb4, h => by
    rw [Lm.chk] at h
    rw [Lm.size] at hb
    split at h
    · rename_i hk
      split at h
      · rename_i hi
        refine ⟨fun e => ?_, hi.1, ?_, ?_⟩
        · subst e
          have := hk.2.2
          simp [nSubs] at this
          exact this
        · have := hi.2
          simp only [mostIdx] at this
          split at this
          · omega
          · split at this
            · omega
            · split at this <;> omega
        · have hu2 : under k u ≤ u + 1 ∧ 0 ≤ under k u := by unfold under; split <;> omega
          exact Lm.goods_chk h1 xs (under k u) b hu2.2 (by omega) hb4 h
      · omega
    · omega
theorem Lm.goods_chk {m : Int} (h1 : m ≤ 40) : ∀ (xs : List Lm) (u b : Int), 0 ≤ u → u + Lm.sizes xs ≤ b → 40 ≤ b → Lm.chks m xs u = 0 → Lm.goods b xs
  | [], _, _, _, _, _, _ => trivial
  | t :: ts, u, b, hu, hb, hb4, h => by
    rw [Lm.chks] at h
    rw [Lm.sizes] at hb
    split at h
    · rename_i e
      exact ⟨Lm.good_chk h1 t u b hu (by omega) hb4 e, Lm.goods_chk h1 ts u b hu (by omega) hb4 h⟩
    · rename_i e
      exact absurd h e
end

/-! ### moving what is bound -/
mutual
def Lm.mv (by_ : Int) : Int → Lm → Lm
  | d, .mk k i xs => .mk k (if k = 1 ∧ d ≤ i then i + by_ else i) (Lm.mvs by_ (under k d) xs)
def Lm.mvs (by_ : Int) : Int → List Lm → List Lm
  | _, [] => []
  | d, t :: ts => Lm.mv by_ d t :: Lm.mvs by_ d ts
end
theorem Lm.mvs_eq (b d : Int) : ∀ xs : List Lm, Lm.mvs b d xs = xs.map (Lm.mv b d)
  | [] => rfl
  | t :: ts => by rw [Lm.mvs, Lm.mvs_eq b d ts]; rfl
theorem Lm.mv_eq (b d : Int) (t : Lm) : Lm.mv b d t = .mk t.kind (if t.kind = 1 ∧ d ≤ t.idx then t.idx + b else t.idx) (t.subs.map (Lm.mv b (under t.kind d))) := by
  cases t
  rw [Lm.mv, Lm.mvs_eq]
  rfl
mutual
theorem Lm.size_mv (b : Int) : ∀ (d : Int) (t : Lm), (Lm.mv b d t).size = t.size
  | d, .mk k i xs => by rw [Lm.mv, Lm.size, Lm.size, Lm.sizes_mv b _ xs]
theorem Lm.sizes_mv (b : Int) : ∀ (d : Int) (xs : List Lm), Lm.sizes (Lm.mvs b d xs) = Lm.sizes xs
  | _, [] => rfl
  | d, t :: ts => by rw [Lm.mvs, Lm.sizes, Lm.sizes, Lm.size_mv b d t, Lm.sizes_mv b d ts]
end

/-! ### putting in -/
mutual
def Lm.put (x : Lm) : Int → Lm → Lm
  | d, .mk k i xs => if k = 1 then (if i = d then Lm.mv d 0 x else if d < i then .mk 1 (i - 1) [] else .mk 1 i []) else .mk k i (Lm.puts x (under k d) xs)
def Lm.puts (x : Lm) : Int → List Lm → List Lm
  | _, [] => []
  | d, t :: ts => Lm.put x d t :: Lm.puts x d ts
end
theorem Lm.puts_eq (x : Lm) (d : Int) : ∀ xs : List Lm, Lm.puts x d xs = xs.map (Lm.put x d)
  | [] => rfl
  | t :: ts => by rw [Lm.puts, Lm.puts_eq x d ts]; rfl
theorem Lm.put_eq (x : Lm) (d : Int) (t : Lm) : Lm.put x d t = if t.kind = 1 then (if t.idx = d then Lm.mv d 0 x else if d < t.idx then .mk 1 (t.idx - 1) [] else .mk 1 t.idx []) else .mk t.kind t.idx (t.subs.map (Lm.put x (under t.kind d))) := by
  cases t
  rw [Lm.put, Lm.puts_eq]
  rfl
theorem mul_succ_le {a b c : Nat} (h : a ≤ b * c) (hc : 1 ≤ c) : 1 + a ≤ (1 + b) * c := by
  rw [Nat.add_mul, Nat.one_mul]
  omega
mutual
theorem Lm.size_put (x : Lm) : ∀ (d : Int) (t : Lm), (Lm.put x d t).size ≤ t.size * x.size
  | d, .mk k i xs => by
    have hx := Lm.size_pos x
    have h1 : 1 ≤ (1 + Lm.sizes xs) * x.size := by
      rw [Nat.add_mul]; omega
    have h2 : x.size ≤ (1 + Lm.sizes xs) * x.size := by
      rw [Nat.add_mul]; omega
    rw [Lm.put, Lm.size]
    split
    · split
      · rw [Lm.size_mv]; exact h2
      · split
        · simpa only [Lm.size, Lm.sizes, Nat.add_zero] using h1
        · simpa only [Lm.size, Lm.sizes, Nat.add_zero] using h1
    · rw [Lm.size]
      exact mul_succ_le (Lm.sizes_put x _ xs) hx
theorem Lm.sizes_put (x : Lm) : ∀ (d : Int) (xs : List Lm), Lm.sizes (Lm.puts x d xs) ≤ Lm.sizes xs * x.size
  | _, [] => by simp [Lm.puts, Lm.sizes]
  | d, t :: ts => by
    have h1 := Lm.size_put x d t
    have h2 := Lm.sizes_put x d ts
    rw [Lm.puts, Lm.sizes, Lm.sizes, Nat.add_mul]
    omega
end

/-! ### sameness -/
mutual
def Lm.same : Lm → Lm → Bool
  | .mk k i xs, .mk l j ys => decide (k = l) && decide (i = j) && Lm.sames xs ys
def Lm.sames : List Lm → List Lm → Bool
  | [], [] => true
  | x :: xs, y :: ys => x.same y && Lm.sames xs ys
  | [], _ :: _ => false
  | _ :: _, [] => false
end
mutual
theorem Lm.same_self : ∀ t : Lm, t.same t = true
  | .mk k i xs => by simp [Lm.same, Lm.sames_self xs]
theorem Lm.sames_self : ∀ xs : List Lm, Lm.sames xs xs = true
  | [] => rfl
  | t :: ts => by simp [Lm.sames, Lm.same_self t, Lm.sames_self ts]
end
/-- What a term that is given must be. -/
def Lm.may (m u : Int) (t : Lm) : Int := if u < 0 ∨ 40 < u then 10 else if 200 < t.size then 3 else t.chk m u
theorem Lm.may_ok {m u : Int} {t : Lm} (h : Lm.may m u t = 0) : 0 ≤ u ∧ u ≤ 40 ∧ t.size ≤ 200 ∧ t.chk m u = 0 := by
  unfold Lm.may at h
  split at h
  · omega
  · split at h
    · omega
    · omega
def Lm.nil : Lm := .mk 0 0 []
end Go.Proofs.YtbiadmlfejnbcaaGreatDoor

namespace Go.Proofs.YtbiadmlfejnbcaaGreatDoor
open Go Go.RowKit
set_option linter.unusedVariables false

/-! ### is a name there? -/
mutual
def Tm.hasN (v : ByteArray) : Tm → Bool
  | .mk n xs => decide (n = v) || Tm.hasNs v xs
def Tm.hasNs (v : ByteArray) : List Tm → Bool
  | [] => false
  | t :: ts => t.hasN v || Tm.hasNs v ts
end
theorem Tm.hasN_eq (v : ByteArray) (t : Tm) : t.hasN v = (decide (t.name = v) || Tm.hasNs v t.args) := by cases t; rfl
theorem Tm.hasNs_append (v : ByteArray) (xs ys : List Tm) : Tm.hasNs v (xs ++ ys) = (Tm.hasNs v xs || Tm.hasNs v ys) := by
  induction xs with
  | nil => simp [Tm.hasNs]
  | cons x xs ih => simp [Tm.hasNs, ih, Bool.or_assoc]
theorem Tm.hasNs_take {v : ByteArray} {xs : List Tm} {k : Nat} {a : Tm} (ha : xs[k]? = some a) (h : Tm.hasNs v (xs.take k) = false) : Tm.hasNs v (xs.take (k + 1)) = a.hasN v := by
  rw [take_snoc ha, Tm.hasNs_append, h]
  simp [Tm.hasNs]
theorem Tm.hasNs_yes {v : ByteArray} {xs : List Tm} {k : Nat} (h : Tm.hasNs v (xs.take k) = true) : Tm.hasNs v xs = true := by
  have := Tm.hasNs_append v (xs.take k) (xs.drop k)
  rw [List.take_append_drop, h] at this
  simpa using this
/-- how often, among some -/
def oftenL (v : ByteArray) : List Tm → Nat
  | [] => 0
  | t :: ts => (if t.name = v then 1 else 0) + oftenL v ts
theorem oftenL_append (v : ByteArray) (xs ys : List Tm) : oftenL v (xs ++ ys) = oftenL v xs + oftenL v ys := by
  induction xs with
  | nil => simp [oftenL]
  | cons x xs ih => simp only [List.cons_append, oftenL, ih]; omega
theorem oftenL_take {v : ByteArray} {xs : List Tm} {k : Nat} {a : Tm} (ha : xs[k]? = some a) : oftenL v (xs.take (k + 1)) = oftenL v (xs.take k) + (if a.name = v then 1 else 0) := by
  rw [take_snoc ha, oftenL_append]
  simp [oftenL]
theorem oftenL_le (v : ByteArray) : ∀ xs : List Tm, oftenL v xs ≤ xs.length
  | [] => Nat.le_refl _
  | t :: ts => by
    have := oftenL_le v ts
    simp only [oftenL, List.length_cons]
    split <;> omega
def Tm.often (v : ByteArray) (t : Tm) : Nat := oftenL v t.knots
mutual
theorem Tm.often_has (v : ByteArray) : ∀ t : Tm, t.hasN v = decide (0 < oftenL v t.knots)
  | .mk n xs => by
    rw [Tm.hasN, Tm.knots, oftenL, Tm.oftens_has v xs, Tm.name_mk]
    by_cases h : n = v
    · simp [h]
      omega
    · simp [h]
theorem Tm.oftens_has (v : ByteArray) : ∀ xs : List Tm, Tm.hasNs v xs = decide (0 < oftenL v (Tm.knotsL xs))
  | [] => rfl
  | t :: ts => by
    rw [Tm.hasNs, Tm.knotsL, oftenL_append, Tm.often_has v t, Tm.oftens_has v ts, ← Bool.decide_or]
    congr 1
    simp only [eq_iff_iff]
    omega
end

/-! ### without a name -/
def leafOf (n : ByteArray) : Tm := .mk n []
/-- Of one put to another: the parts, and what they are without the name. -/
def brAp (v : ByteArray) (d : Tm) : List Tm → List Tm → Tm
  | f :: x :: _, f' :: x' :: _ => if x.name = v ∧ f.hasN v = false then f else ap2 (ap2 (leafOf sS) f') x'
  | _, _ => d
mutual
def Tm.br (v : ByteArray) : Tm → Tm
  | .mk n xs => if (Tm.mk n xs).hasN v = false then ap2 (leafOf kS) (.mk n xs) else if n = v then leafOf iS else brAp v (.mk n xs) xs (Tm.brs v xs)
def Tm.brs (v : ByteArray) : List Tm → List Tm
  | [] => []
  | t :: ts => t.br v :: Tm.brs v ts
end
theorem Tm.br_none {v : ByteArray} {t : Tm} (h : t.hasN v = false) : t.br v = ap2 (leafOf kS) t := by
  cases t
  rw [Tm.br, if_pos h]
theorem Tm.br_self {v : ByteArray} {t : Tm} (h : t.hasN v = true) (hn : t.name = v) : t.br v = leafOf iS := by
  cases t
  rw [Tm.name_mk] at hn
  rw [Tm.br, if_neg (by rw [h]; decide), if_pos hn]
theorem Tm.br_ap {v : ByteArray} {t f x : Tm} (h : t.hasN v = true) (hn : ¬ t.name = v) (ha : t.args = [f, x]) : t.br v = if x.name = v ∧ f.hasN v = false then f else ap2 (ap2 (leafOf sS) (f.br v)) (x.br v) := by
  cases t
  rw [Tm.name_mk] at hn
  rw [Tm.args_mk] at ha
  subst ha
  rw [Tm.br, if_neg (by rw [h]; decide), if_neg hn, Tm.brs, Tm.brs, brAp]
theorem leaf_has {v : ByteArray} {t : Tm} (h : t.hasN v = true) (hn : ¬ t.name = v) : ¬ t.args = [] := by
  intro ha
  rw [Tm.hasN_eq, ha] at h
  simp [Tm.hasNs, hn] at h
theorem leafOf_fm (n : ByteArray) : (leafOf n).fm = true := by simp [leafOf, Tm.fm, fmOne, Tm.fms, Tm.args_mk]
theorem leafOf_size (n : ByteArray) : (leafOf n).size = 1 := rfl
theorem Tm.br_all : ∀ (N : Nat) (v : ByteArray) (t : Tm), SizeOf.sizeOf t < N → t.fm = true → (t.br v).fm = true ∧ (t.br v).size ≤ 3 * t.size := by
  intro N
  induction N with
  | zero => intro v t h; omega
  | succ N ih =>
    intro v t hN hf
    have hp := Tm.size_pos t
    by_cases h : t.hasN v = true
    · by_cases hn : t.name = v
      · rw [Tm.br_self h hn]
        exact ⟨leafOf_fm _, by rw [leafOf_size]; omega⟩
      · rcases Tm.fm_cases hf with h0 | ⟨f, x, _, ha, hf1, hx1⟩
        · exact absurd h0 (leaf_has h hn)
        · rw [Tm.br_ap h hn ha]
          have hs := Tm.size_eq t
          rw [ha] at hs
          simp only [Tm.sizes] at hs
          split
          · exact ⟨hf1, by omega⟩
          · obtain ⟨a1, a2⟩ := ih v f (by have := Tm.lt_of_arg (a := f) (t := t) (by rw [ha]; simp); omega) hf1
            obtain ⟨b1, b2⟩ := ih v x (by have := Tm.lt_of_arg (a := x) (t := t) (by rw [ha]; simp); omega) hx1
            refine ⟨ap2_fm (ap2_fm (leafOf_fm _) a1) b1, ?_⟩
            rw [ap2_size, ap2_size, leafOf_size]
            omega
    · have h' : t.hasN v = false := by simpa using h
      rw [Tm.br_none h']
      refine ⟨ap2_fm (leafOf_fm _) hf, ?_⟩
      rw [ap2_size, leafOf_size]
      omega

/-! ### numbers as texts -/
def digit (n : Nat) : ByteArray := ⟨#[UInt8.ofNat (48 + n)]⟩
def dec2 (n : Nat) : ByteArray := if n < 10 then digit n else digit (n / 10) ++ digit (n % 10)
end Go.Proofs.YtbiadmlfejnbcaaGreatDoor

namespace Go.Proofs.YtbiadmlfejnbcaaGreatDoor
open Go Go.RowKit
set_option linter.unusedVariables false

/-! ### the form of a term -/
mutual
def Lm.wf : Lm → Prop
  | .mk k i xs => (1 ≤ k ∧ k ≤ 5 ∧ (xs.length : Int) = nSubs k) ∧ Lm.wfs xs
def Lm.wfs : List Lm → Prop
  | [] => True
  | t :: ts => t.wf ∧ Lm.wfs ts
end
theorem Lm.wf_eq (t : Lm) : t.wf ↔ ((1 ≤ t.kind ∧ t.kind ≤ 5 ∧ (t.subs.length : Int) = nSubs t.kind) ∧ Lm.wfs t.subs) := by cases t; exact Iff.rfl
theorem Lm.wfs_iff {xs : List Lm} : Lm.wfs xs ↔ ∀ t ∈ xs, t.wf := by
  induction xs with
  | nil => simp [Lm.wfs]
  | cons x xs ih => simp [Lm.wfs, ih]
theorem Lm.goods_iff {b : Int} {xs : List Lm} : Lm.goods b xs ↔ ∀ t ∈ xs, t.good b := by
  induction xs with
  | nil => simp [Lm.goods]
  | cons x xs ih => simp [Lm.goods, ih]
theorem Lm.wf_sub {t a : Lm} (h : t.wf) (ha : a ∈ t.subs) : a.wf := Lm.wfs_iff.1 ((Lm.wf_eq t).1 h).2 a ha
mutual
theorem Lm.wf_chk {m : Int} : ∀ (t : Lm) (u : Int), t.chk m u = 0 → t.wf
  | .mk k i xs, u, h => by
    rw [Lm.chk] at h
    split at h
    · rename_i hk
      split at h
      · exact ⟨hk, Lm.wfs_chk xs _ h⟩
      · omega
    · omega
theorem Lm.wfs_chk {m : Int} : ∀ (xs : List Lm) (u : Int), Lm.chks m xs u = 0 → Lm.wfs xs
  | [], _, _ => trivial
  | t :: ts, u, h => by
    rw [Lm.chks] at h
    split at h
    · rename_i e
      exact ⟨Lm.wf_chk t u e, Lm.wfs_chk ts u h⟩
    · rename_i e
      exact absurd h e
end
mutual
theorem Lm.good_mono {b c : Int} (hbc : b ≤ c) : ∀ t : Lm, t.good b → t.good c
  | .mk k i xs, h => ⟨h.1, h.2.1, by have := h.2.2.1; omega, Lm.goods_mono hbc xs h.2.2.2⟩
theorem Lm.goods_mono {b c : Int} (hbc : b ≤ c) : ∀ xs : List Lm, Lm.goods b xs → Lm.goods c xs
  | [], _ => trivial
  | t :: ts, h => ⟨Lm.good_mono hbc t h.1, Lm.goods_mono hbc ts h.2⟩
end
theorem Lm.mvs_length (b d : Int) (xs : List Lm) : (Lm.mvs b d xs).length = xs.length := by rw [Lm.mvs_eq, List.length_map]
theorem Lm.puts_length (x : Lm) (d : Int) (xs : List Lm) : (Lm.puts x d xs).length = xs.length := by rw [Lm.puts_eq, List.length_map]
mutual
theorem Lm.wf_mv {b : Int} : ∀ (d : Int) (t : Lm), t.wf → (Lm.mv b d t).wf
  | d, .mk k i xs, h => ⟨by rw [Lm.mvs_length]; exact h.1, Lm.wfs_mv _ xs h.2⟩
theorem Lm.wfs_mv {b : Int} : ∀ (d : Int) (xs : List Lm), Lm.wfs xs → Lm.wfs (Lm.mvs b d xs)
  | _, [], _ => trivial
  | d, t :: ts, h => ⟨Lm.wf_mv d t h.1, Lm.wfs_mv d ts h.2⟩
end
mutual
theorem Lm.good_mv {b c : Int} (hb : 0 ≤ b) : ∀ (d : Int) (t : Lm), t.good c → (Lm.mv b d t).good (c + b)
  | d, .mk k i xs, h => by
    refine ⟨fun e => by rw [h.1 e]; rfl, ?_, ?_, Lm.goods_mv hb _ xs h.2.2.2⟩
    · have := h.2.1
      split <;> omega
    · have := h.2.2.1
      split <;> omega
theorem Lm.goods_mv {b c : Int} (hb : 0 ≤ b) : ∀ (d : Int) (xs : List Lm), Lm.goods c xs → Lm.goods (c + b) (Lm.mvs b d xs)
  | _, [], _ => trivial
  | d, t :: ts, h => ⟨Lm.good_mv hb d t h.1, Lm.goods_mv hb d ts h.2⟩
end
mutual
theorem Lm.mv_zero : ∀ (d : Int) (t : Lm), Lm.mv 0 d t = t
  | d, .mk k i xs => by rw [Lm.mv, Lm.mvs_zero]; simp
theorem Lm.mvs_zero : ∀ (d : Int) (xs : List Lm), Lm.mvs 0 d xs = xs
  | _, [] => rfl
  | d, t :: ts => by rw [Lm.mvs, Lm.mv_zero d t, Lm.mvs_zero d ts]
end
theorem under_le (k d : Int) : under k d ≤ d + 1 ∧ d ≤ under k d := by unfold under; split <;> omega
mutual
theorem Lm.wf_put {x : Lm} (hx : x.wf) : ∀ (d : Int) (t : Lm), t.wf → (Lm.put x d t).wf
  | d, .mk k i xs, h => by
    rw [Lm.put]
    split
    · split
      · exact Lm.wf_mv 0 x hx
      · split
        · exact ⟨⟨by decide, by decide, rfl⟩, trivial⟩
        · exact ⟨⟨by decide, by decide, rfl⟩, trivial⟩
    · exact ⟨by rw [Lm.puts_length]; exact h.1, Lm.wfs_put hx _ xs h.2⟩
theorem Lm.wfs_put {x : Lm} (hx : x.wf) : ∀ (d : Int) (xs : List Lm), Lm.wfs xs → Lm.wfs (Lm.puts x d xs)
  | _, [], _ => trivial
  | d, t :: ts, h => ⟨Lm.wf_put hx d t h.1, Lm.wfs_put hx d ts h.2⟩
end
mutual
theorem Lm.good_put {x : Lm} {b D : Int} (hx : x.good b) : ∀ (d : Int) (t : Lm), 0 ≤ d → d + t.size ≤ D → t.good b → (Lm.put x d t).good (b + D)
  | d, .mk k i xs, hd, hD, h => by
    rw [Lm.size] at hD
    have h2 := h.2.1
    have h3 := h.2.2.1
    rw [Lm.put]
    split
    · split
      · exact Lm.good_mono (by omega) _ (Lm.good_mv hd 0 x hx)
      · split
        · exact ⟨fun _ => rfl, by omega, by omega, trivial⟩
        · exact ⟨fun _ => rfl, by omega, by omega, trivial⟩
    · rename_i hk
      have hu := under_le k d
      exact ⟨fun e => absurd e hk, h2, by omega, Lm.goods_put hx _ xs (by omega) (by omega) h.2.2.2⟩
theorem Lm.goods_put {x : Lm} {b D : Int} (hx : x.good b) : ∀ (d : Int) (xs : List Lm), 0 ≤ d → d + Lm.sizes xs ≤ D → Lm.goods b xs → Lm.goods (b + D) (Lm.puts x d xs)
  | _, [], _, _, _ => trivial
  | d, t :: ts, hd, hD, h => by
    rw [Lm.sizes] at hD
    exact ⟨Lm.good_put hx d t hd (by omega) h.1, Lm.goods_put hx d ts hd (by omega) h.2⟩
end

/-! ### one step -/
/-- What a term that can be worked out itself becomes. -/
def Lm.top (k : Int) (xs : List Lm) : Option Lm := match xs with
  | f :: x :: _ => if k = 3 ∧ f.kind = 2 then (match f.subs with | b :: _ => some (Lm.put x 0 b) | [] => none) else none
  | _ => none
mutual
def Lm.outer : Lm → Option Lm
  | .mk k i xs => match Lm.top k xs with
    | some y => some y
    | none => match Lm.outers xs with
      | some ys => some (.mk k i ys)
      | none => none
def Lm.outers : List Lm → Option (List Lm)
  | [] => none
  | t :: ts => match t.outer with
    | some x => some (x :: ts)
    | none => match Lm.outers ts with
      | some ys => some (t :: ys)
      | none => none
end
theorem Lm.outer_eq (t : Lm) : t.outer = match Lm.top t.kind t.subs with
    | some y => some y
    | none => match Lm.outers t.subs with
      | some ys => some (.mk t.kind t.idx ys)
      | none => none := by cases t; rw [Lm.outer]; rfl
theorem len_one {α : Type} {xs : List α} (h : (xs.length : Int) = 1) : ∃ a, xs = [a] := by
  match xs, h with
  | [a], _ => exact ⟨a, rfl⟩
  | [], h => simp at h
  | _ :: _ :: _, h => simp at h; omega
theorem len_two {α : Type} {xs : List α} (h : (xs.length : Int) = 2) : ∃ a b, xs = [a, b] := by
  match xs, h with
  | [a, b], _ => exact ⟨a, b, rfl⟩
  | [], h => simp at h
  | [_], h => simp at h
  | _ :: _ :: _ :: _, h => simp at h; omega
theorem Lm.subs1 {t : Lm} (h : t.wf) (hk : t.kind = 2) : ∃ a, t.subs = [a] := by
  have := ((Lm.wf_eq t).1 h).1.2.2
  rw [hk] at this
  exact len_one this
theorem Lm.subs2 {t : Lm} (h : t.wf) (hk : t.kind = 3) : ∃ a b, t.subs = [a, b] := by
  have := ((Lm.wf_eq t).1 h).1.2.2
  rw [hk] at this
  exact len_two this
/-- Either a term can be worked out itself, or not. -/
theorem Lm.top_cases {t : Lm} (h : t.wf) : (∃ f x b, t.kind = 3 ∧ t.subs = [f, x] ∧ f.kind = 2 ∧ f.subs = [b] ∧ Lm.top t.kind t.subs = some (Lm.put x 0 b)) ∨ (Lm.top t.kind t.subs = none ∧ (t.kind = 3 → ∃ f x, t.subs = [f, x] ∧ ¬ f.kind = 2)) := by
  by_cases hk : t.kind = 3
  · obtain ⟨f, x, hfx⟩ := Lm.subs2 h hk
    by_cases hf : f.kind = 2
    · obtain ⟨b, hb⟩ := Lm.subs1 (Lm.wf_sub h (by rw [hfx]; simp)) hf
      exact Or.inl ⟨f, x, b, hk, hfx, hf, hb, by rw [hfx]; simp [Lm.top, hk, hf, hb]⟩
    · exact Or.inr ⟨by rw [hfx]; simp [Lm.top, hf], fun _ => ⟨f, x, hfx, hf⟩⟩
  · refine Or.inr ⟨?_, fun e => absurd e hk⟩
    unfold Lm.top
    split
    · rw [if_neg (fun h => hk h.1)]
    · rfl
theorem Lm.outers_none {xs : List Lm} {k : Nat} {a : Lm} (ha : xs[k]? = some a) (h : Lm.outers (xs.take k) = none) (hn : a.outer = none) : Lm.outers (xs.take (k + 1)) = none := by
  induction xs generalizing k with
  | nil => simp at ha
  | cons x xs ih =>
    cases k with
    | zero =>
      have : x = a := by simpa using ha
      subst this
      simp [Lm.outers, hn]
    | succ k =>
      rw [List.take_succ_cons, Lm.outers] at h ⊢
      split at h
      · cases h
      · rename_i hx
        split at h
        · cases h
        · rename_i h2
          rw [ih (by simpa using ha) h2]
theorem Lm.outers_some {xs : List Lm} {k : Nat} {a y : Lm} (ha : xs[k]? = some a) (h : Lm.outers (xs.take k) = none) (hy : a.outer = some y) : Lm.outers xs = some (xs.set k y) := by
  induction xs generalizing k with
  | nil => simp at ha
  | cons x xs ih =>
    cases k with
    | zero =>
      have : x = a := by simpa using ha
      subst this
      simp [Lm.outers, hy]
    | succ k =>
      rw [List.take_succ_cons, Lm.outers] at h
      split at h
      · cases h
      · rename_i hx
        split at h
        · cases h
        · rename_i h2
          rw [Lm.outers, hx, ih (by simpa using ha) h2]
          rfl
theorem Lm.outers_length : ∀ {xs ys : List Lm}, Lm.outers xs = some ys → ys.length = xs.length
  | [], ys, h => by cases h
  | t :: ts, ys, h => by
    rw [Lm.outers] at h
    split at h
    · cases h; rfl
    · split at h
      · rename_i h2
        cases h
        simp [Lm.outers_length h2]
      · cases h
theorem Lm.top_some {k : Int} {xs : List Lm} {y : Lm} (h : Lm.top k xs = some y) : ∃ f x r b q, xs = f :: x :: r ∧ f.subs = b :: q ∧ k = 3 ∧ f.kind = 2 ∧ y = Lm.put x 0 b := by
  unfold Lm.top at h
  split at h
  · rename_i f x r
    split at h
    · rename_i hk
      split at h
      · rename_i b q hb
        cases h
        exact ⟨f, x, r, b, q, rfl, hb, hk.1, hk.2, rfl⟩
      · cases h
    · cases h
  · cases h
mutual
theorem Lm.wf_outer : ∀ {t y : Lm}, t.wf → t.outer = some y → y.wf
  | .mk k i xs, y, hw, h => by
    rw [Lm.outer] at h
    split at h
    · rename_i z hz
      cases h
      obtain ⟨f, x, r, b, q, rfl, hb, _, _, rfl⟩ := Lm.top_some hz
      exact Lm.wf_put hw.2.2.1 0 b (Lm.wf_sub hw.2.1 (by rw [hb]; simp))
    · split at h
      · rename_i ys hys
        cases h
        exact ⟨by rw [Lm.outers_length hys]; exact hw.1, Lm.wfs_outers hw.2 hys⟩
      · cases h
theorem Lm.wfs_outers : ∀ {xs ys : List Lm}, Lm.wfs xs → Lm.outers xs = some ys → Lm.wfs ys
  | [], _, _, h => by cases h
  | t :: ts, ys, hw, h => by
    rw [Lm.outers] at h
    split at h
    · rename_i x hx
      cases h
      exact ⟨Lm.wf_outer hw.1 hx, hw.2⟩
    · split at h
      · rename_i zs hzs
        cases h
        exact ⟨hw.1, Lm.wfs_outers hw.2 hzs⟩
      · cases h
end
mutual
theorem Lm.good_outer {b D : Int} (hD : 0 ≤ D) : ∀ {t y : Lm}, t.size ≤ D → t.good b → t.outer = some y → y.good (b + D)
  | .mk k i xs, y, hs, hg, h => by
    rw [Lm.size] at hs
    rw [Lm.outer] at h
    split at h
    · rename_i z hz
      cases h
      obtain ⟨f, x, r, c, q, rfl, hb, _, _, rfl⟩ := Lm.top_some hz
      have h1 : c ∈ f.subs := by rw [hb]; simp
      have h2 := Lm.size_sub h1
      simp only [Lm.sizes] at hs
      exact Lm.good_put hg.2.2.2.2.1 0 c (by decide) (by omega) (Lm.good_sub hg.2.2.2.1 h1)
    · split at h
      · rename_i ys hys
        cases h
        have := hg.2.2.1
        refine ⟨fun e => ?_, hg.2.1, by omega, Lm.goods_outers hD (by omega) hg.2.2.2 hys⟩
        have h1 := Lm.outers_length hys
        rw [hg.1 e] at h1
        exact List.eq_nil_of_length_eq_zero (by simpa using h1)
      · cases h
theorem Lm.goods_outers {b D : Int} (hD : 0 ≤ D) : ∀ {xs ys : List Lm}, Lm.sizes xs ≤ D → Lm.goods b xs → Lm.outers xs = some ys → Lm.goods (b + D) ys
  | [], _, _, _, h => by cases h
  | t :: ts, ys, hs, hg, h => by
    rw [Lm.sizes] at hs
    rw [Lm.outers] at h
    split at h
    · rename_i x hx
      cases h
      exact ⟨Lm.good_outer hD (by omega) hg.1 hx, Lm.goods_mono (by omega) ts hg.2⟩
    · split at h
      · rename_i zs hzs
        cases h
        exact ⟨Lm.good_mono (by omega) t hg.1, Lm.goods_outers hD (by omega) hg.2 hzs⟩
      · cases h
end
theorem sq_step {a r x : Nat} (h : x ≤ a * a) : x + r ≤ (a + r) * (a + r) := by
  have h1 : (a + r) * (a + r) = a * a + a * r + (r * a + r * r) := by rw [Nat.add_mul, Nat.mul_add, Nat.mul_add]
  have h2 : r ≤ r * r := Nat.le_mul_self r
  rw [h1]
  omega
mutual
theorem Lm.size_outer : ∀ {t y : Lm}, t.outer = some y → y.size ≤ t.size * t.size
  | .mk k i xs, y, h => by
    rw [Lm.outer] at h
    rw [Lm.size]
    split at h
    · rename_i z hz
      cases h
      obtain ⟨f, x, r, c, q, rfl, hb, _, _, rfl⟩ := Lm.top_some hz
      have h1 : c ∈ f.subs := by rw [hb]; simp
      have h2 := Lm.size_sub h1
      refine Nat.le_trans (Lm.size_put x 0 c) ?_
      simp only [Lm.sizes]
      exact Nat.mul_le_mul (by omega) (by omega)
    · split at h
      · rename_i ys hys
        cases h
        rw [Lm.size]
        have := sq_step (r := 1) (Lm.sizes_outers hys)
        rw [Nat.add_comm 1, Nat.add_comm 1]
        exact this
      · cases h
theorem Lm.sizes_outers : ∀ {xs ys : List Lm}, Lm.outers xs = some ys → Lm.sizes ys ≤ Lm.sizes xs * Lm.sizes xs
  | [], _, h => by cases h
  | t :: ts, ys, h => by
    rw [Lm.outers] at h
    rw [Lm.sizes]
    split at h
    · rename_i x hx
      cases h
      rw [Lm.sizes]
      exact sq_step (Lm.size_outer hx)
    · split at h
      · rename_i zs hzs
        cases h
        rw [Lm.sizes, Nat.add_comm t.size, Nat.add_comm t.size]
        exact sq_step (Lm.sizes_outers hzs)
      · cases h
end

/-! ### steps, till there is none -/
/-- left: how many more there may be; n: how many there were. -/
def Lm.run : Nat → Int → Lm → Lm × Int × Int
  | left, n, t => match t.outer with
    | none => (t, n, 0)
    | some x => match left with
      | 0 => (Lm.nil, 0, 9)
      | left + 1 => if 2000 < x.size then (Lm.nil, 0, 8) else Lm.run left (n + 1) x
theorem Lm.run_none {left : Nat} {n : Int} {t : Lm} (h : t.outer = none) : Lm.run left n t = (t, n, 0) := by
  cases left <;> (rw [Lm.run]; simp only [h])
theorem Lm.run_zero {n : Int} {t x : Lm} (h : t.outer = some x) : Lm.run 0 n t = (Lm.nil, 0, 9) := by rw [Lm.run]; simp only [h]
theorem Lm.run_succ {left : Nat} {n : Int} {t x : Lm} (h : t.outer = some x) : Lm.run (left + 1) n t = if 2000 < x.size then (Lm.nil, 0, 8) else Lm.run left (n + 1) x := by rw [Lm.run]; simp only [h]
/-- What comes out at last is of the form, small, and its numbers are not great. -/
theorem Lm.run_ok : ∀ (left : Nat) (n : Int) (t : Lm) (b : Int), t.wf → t.size ≤ 2000 → t.good b → (Lm.run left n t).2.2 = 0 → (Lm.run left n t).1.wf ∧ (Lm.run left n t).1.size ≤ 2000 ∧ (Lm.run left n t).1.good (b + 2000 * left) := by
  intro left
  induction left with
  | zero =>
    intro n t b hw hs hg he
    cases ho : t.outer with
    | none => rw [Lm.run_none ho]; exact ⟨hw, hs, Lm.good_mono (by simp) _ hg⟩
    | some x => rw [Lm.run_zero ho] at he; simp at he
  | succ left ih =>
    intro n t b hw hs hg he
    cases ho : t.outer with
    | none => rw [Lm.run_none ho]; exact ⟨hw, hs, Lm.good_mono (by omega) _ hg⟩
    | some x =>
      rw [Lm.run_succ ho] at he ⊢
      split at he
      · simp at he
      · rename_i hx
        rw [if_neg hx]
        obtain ⟨h1, h2, h3⟩ := ih (n + 1) x (b + 2000) (Lm.wf_outer hw ho) (by omega) (Lm.good_outer (by decide) (by omega) hg ho) he
        exact ⟨h1, h2, Lm.good_mono (by omega) _ h3⟩
end Go.Proofs.YtbiadmlfejnbcaaGreatDoor

namespace Go.Proofs.YtbiadmlfejnbcaaGreatDoor
open Go Go.RowKit
set_option linter.unusedVariables false

/-! ### is something bound used? -/
mutual
def Lm.has : Int → Lm → Bool
  | d, .mk k i xs => if k = 1 then decide (i = d) else Lm.hass (under k d) xs
def Lm.hass : Int → List Lm → Bool
  | _, [] => false
  | d, t :: ts => Lm.has d t || Lm.hass d ts
end
theorem Lm.has_eq (d : Int) (t : Lm) : Lm.has d t = if t.kind = 1 then decide (t.idx = d) else Lm.hass (under t.kind d) t.subs := by cases t; rfl
theorem Lm.hass_append (d : Int) (xs ys : List Lm) : Lm.hass d (xs ++ ys) = (Lm.hass d xs || Lm.hass d ys) := by
  induction xs with
  | nil => simp [Lm.hass]
  | cons x xs ih => simp [Lm.hass, ih, Bool.or_assoc]
theorem Lm.hass_take {d : Int} {xs : List Lm} {k : Nat} {a : Lm} (ha : xs[k]? = some a) (h : Lm.hass d (xs.take k) = false) : Lm.hass d (xs.take (k + 1)) = Lm.has d a := by
  rw [take_snoc ha, Lm.hass_append, h]
  simp [Lm.hass]
theorem Lm.hass_yes {d : Int} {xs : List Lm} {k : Nat} (h : Lm.hass d (xs.take k) = true) : Lm.hass d xs = true := by
  have := Lm.hass_append d (xs.take k) (xs.drop k)
  rw [List.take_append_drop, h] at this
  simpa using this
mutual
/-- how often -/
def Lm.uses : Int → Lm → Nat
  | d, .mk k i xs => if k = 1 then (if i = d then 1 else 0) else Lm.usess (under k d) xs
def Lm.usess : Int → List Lm → Nat
  | _, [] => 0
  | d, t :: ts => Lm.uses d t + Lm.usess d ts
end
theorem Lm.uses_eq (d : Int) (t : Lm) : Lm.uses d t = if t.kind = 1 then (if t.idx = d then 1 else 0) else Lm.usess (under t.kind d) t.subs := by cases t; rfl
theorem Lm.usess_append (d : Int) (xs ys : List Lm) : Lm.usess d (xs ++ ys) = Lm.usess d xs + Lm.usess d ys := by
  induction xs with
  | nil => simp [Lm.usess]
  | cons x xs ih => simp only [List.cons_append, Lm.usess, ih]; omega
theorem Lm.usess_take {d : Int} {xs : List Lm} {k : Nat} {a : Lm} (ha : xs[k]? = some a) : Lm.usess d (xs.take (k + 1)) = Lm.usess d (xs.take k) + Lm.uses d a := by
  rw [take_snoc ha, Lm.usess_append]
  simp [Lm.usess]
mutual
theorem Lm.uses_le : ∀ (d : Int) (t : Lm), Lm.uses d t ≤ t.size
  | d, .mk k i xs => by
    have := Lm.usess_le (under k d) xs
    rw [Lm.uses, Lm.size]
    split
    · split <;> omega
    · omega
theorem Lm.usess_le : ∀ (d : Int) (xs : List Lm), Lm.usess d xs ≤ Lm.sizes xs
  | _, [] => Nat.le_refl _
  | d, t :: ts => by
    have := Lm.uses_le d t
    have := Lm.usess_le d ts
    rw [Lm.usess, Lm.sizes]
    omega
end
mutual
theorem Lm.uses_has : ∀ (d : Int) (t : Lm), Lm.has d t = decide (0 < Lm.uses d t)
  | d, .mk k i xs => by
    rw [Lm.uses, Lm.has]
    split
    · split <;> simp_all
    · exact Lm.usess_has _ xs
theorem Lm.usess_has : ∀ (d : Int) (xs : List Lm), Lm.hass d xs = decide (0 < Lm.usess d xs)
  | _, [] => rfl
  | d, t :: ts => by
    rw [Lm.usess, Lm.hass, Lm.uses_has d t, Lm.usess_has d ts, ← Bool.decide_or]
    congr 1
    simp only [eq_iff_iff]
    omega
end

/-! ### eta -/
mutual
theorem Lm.good_down {c : Int} : ∀ (d : Int) (t : Lm), 0 ≤ d → t.good c → Lm.has d t = false → (Lm.mv (-1) d t).good c
  | d, .mk k i xs, hd, h, hh => by
    rw [Lm.has] at hh
    have h2 := h.2.1
    have h3 := h.2.2.1
    have hu := under_le k d
    by_cases hk : k = 1
    · rw [if_pos hk] at hh
      have hne : ¬ i = d := by simpa using hh
      have hx := h.1 hk
      subst hx
      refine ⟨fun _ => rfl, ?_, ?_, trivial⟩
      · split <;> omega
      · split <;> omega
    · rw [if_neg hk] at hh
      refine ⟨fun e => absurd e hk, ?_, ?_, Lm.goods_down _ xs (by omega) h.2.2.2 hh⟩
      · rw [if_neg (fun e => hk e.1)]; exact h2
      · rw [if_neg (fun e => hk e.1)]; exact h3
theorem Lm.goods_down {c : Int} : ∀ (d : Int) (xs : List Lm), 0 ≤ d → Lm.goods c xs → Lm.hass d xs = false → Lm.goods c (Lm.mvs (-1) d xs)
  | _, [], _, _, _ => trivial
  | d, t :: ts, hd, h, hh => by
    rw [Lm.hass, Bool.or_eq_false_iff] at hh
    exact ⟨Lm.good_down d t hd h.1 hh.1, Lm.goods_down d ts hd h.2 hh.2⟩
end
/-- What a binder over such a part becomes. -/
def Lm.etaAt (ys : List Lm) : Option Lm := match ys with
  | b :: _ => if b.kind = 3 then (match b.subs with | f :: x :: _ => if x.kind = 1 ∧ x.idx = 0 ∧ Lm.has 0 f = false then some (Lm.mv (-1) 0 f) else none | _ => none) else none
  | [] => none
mutual
def Lm.eta1 : Lm → Lm
  | .mk k i xs => if k = 2 then (match Lm.etaAt (Lm.etas xs) with | some y => y | none => .mk k i (Lm.etas xs)) else .mk k i (Lm.etas xs)
def Lm.etas : List Lm → List Lm
  | [] => []
  | t :: ts => t.eta1 :: Lm.etas ts
end
theorem Lm.etas_eq : ∀ xs : List Lm, Lm.etas xs = xs.map Lm.eta1
  | [] => rfl
  | t :: ts => by rw [Lm.etas, Lm.etas_eq ts]; rfl
theorem Lm.eta1_eq (t : Lm) : t.eta1 = if t.kind = 2 then (match Lm.etaAt (t.subs.map Lm.eta1) with | some y => y | none => .mk t.kind t.idx (t.subs.map Lm.eta1)) else .mk t.kind t.idx (t.subs.map Lm.eta1) := by
  cases t
  rw [Lm.eta1, Lm.etas_eq]
  rfl
theorem Lm.etaAt_some {ys : List Lm} {y : Lm} (h : Lm.etaAt ys = some y) : ∃ b r f x q, ys = b :: r ∧ b.kind = 3 ∧ b.subs = f :: x :: q ∧ x.kind = 1 ∧ x.idx = 0 ∧ Lm.has 0 f = false ∧ y = Lm.mv (-1) 0 f := by
  unfold Lm.etaAt at h
  split at h
  · rename_i b r
    split at h
    · rename_i hb
      split at h
      · rename_i f x q hs
        split at h
        · rename_i hx
          cases h
          exact ⟨b, r, f, x, q, rfl, hb, hs, hx.1, hx.2.1, hx.2.2, rfl⟩
        · cases h
      · cases h
    · cases h
  · cases h
mutual
theorem Lm.eta1_all {c : Int} : ∀ t : Lm, t.wf → t.good c → t.eta1.wf ∧ t.eta1.good c ∧ t.eta1.size ≤ t.size
  | .mk k i xs, hw, hg => by
    obtain ⟨h1, h2, h3, h4⟩ := Lm.etas_all xs hw.2 hg.2.2.2
    have hrest : (Lm.mk k i (Lm.etas xs)).wf ∧ (Lm.mk k i (Lm.etas xs)).good c ∧ (Lm.mk k i (Lm.etas xs)).size ≤ (Lm.mk k i xs).size :=
      ⟨⟨by rw [h4]; exact hw.1, h1⟩, ⟨fun e => by rw [hg.1 e]; rfl, hg.2.1, hg.2.2.1, h2⟩, by rw [Lm.size, Lm.size]; omega⟩
    rw [Lm.eta1]
    split
    · split
      · rename_i y hy
        obtain ⟨b, r, f, x, q, e1, e2, e3, e4, e5, e6, rfl⟩ := Lm.etaAt_some hy
        have hb : b ∈ Lm.etas xs := by rw [e1]; simp
        have hf : f ∈ b.subs := by rw [e3]; simp
        have s1 := Lm.size_sub hf
        have s2 := Lm.size_mem hb
        refine ⟨Lm.wf_mv 0 f (Lm.wf_sub (Lm.wfs_iff.1 h1 b hb) hf), Lm.good_down 0 f (by decide) (Lm.good_sub (Lm.goods_iff.1 h2 b hb) hf) e6, ?_⟩
        rw [Lm.size_mv, Lm.size]
        omega
      · exact hrest
    · exact hrest
theorem Lm.etas_all {c : Int} : ∀ xs : List Lm, Lm.wfs xs → Lm.goods c xs → Lm.wfs (Lm.etas xs) ∧ Lm.goods c (Lm.etas xs) ∧ Lm.sizes (Lm.etas xs) ≤ Lm.sizes xs ∧ (Lm.etas xs).length = xs.length
  | [], _, _ => ⟨trivial, trivial, Nat.le_refl _, rfl⟩
  | t :: ts, hw, hg => by
    obtain ⟨a1, a2, a3⟩ := Lm.eta1_all t hw.1 hg.1
    obtain ⟨b1, b2, b3, b4⟩ := Lm.etas_all ts hw.2 hg.2
    refine ⟨⟨a1, b1⟩, ⟨a2, b2⟩, ?_, by simp [Lm.etas, b4]⟩
    rw [Lm.etas, Lm.sizes, Lm.sizes]
    omega
end

/-! ### filling in -/
mutual
/-- all its unknowns are given -/
def Lm.known (m : Int) : Lm → Prop
  | .mk k i xs => (k = 5 → 0 ≤ i ∧ i < m) ∧ Lm.knowns m xs
def Lm.knowns (m : Int) : List Lm → Prop
  | [] => True
  | t :: ts => t.known m ∧ Lm.knowns m ts
end
theorem Lm.knowns_iff {m : Int} {xs : List Lm} : Lm.knowns m xs ↔ ∀ t ∈ xs, t.known m := by
  induction xs with
  | nil => simp [Lm.knowns]
  | cons x xs ih => simp [Lm.knowns, ih]
theorem Lm.known_eq (m : Int) (t : Lm) : t.known m ↔ ((t.kind = 5 → 0 ≤ t.idx ∧ t.idx < m) ∧ Lm.knowns m t.subs) := by cases t; exact Iff.rfl
theorem Lm.known_sub {m : Int} {t a : Lm} (h : t.known m) (ha : a ∈ t.subs) : a.known m := Lm.knowns_iff.1 ((Lm.known_eq m t).1 h).2 a ha
mutual
theorem Lm.known_chk {m : Int} : ∀ (t : Lm) (u : Int), t.chk m u = 0 → t.known m
  | .mk k i xs, u, h => by
    rw [Lm.chk] at h
    split at h
    · split at h
      · rename_i hi
        refine ⟨fun e => ?_, Lm.knowns_chk xs _ h⟩
        subst e
        exact ⟨hi.1, by simpa [mostIdx] using hi.2⟩
      · omega
    · omega
theorem Lm.knowns_chk {m : Int} : ∀ (xs : List Lm) (u : Int), Lm.chks m xs u = 0 → Lm.knowns m xs
  | [], _, _ => trivial
  | t :: ts, u, h => by
    rw [Lm.chks] at h
    split at h
    · rename_i e
      exact ⟨Lm.known_chk t u e, Lm.knowns_chk ts u h⟩
    · rename_i e
      exact absurd h e
end
mutual
def Lm.fill (ws : List Lm) : Lm → Lm
  | .mk k i xs => if k = 5 then ws.getD i.toNat Lm.nil else .mk k i (Lm.fills ws xs)
def Lm.fills (ws : List Lm) : List Lm → List Lm
  | [] => []
  | t :: ts => Lm.fill ws t :: Lm.fills ws ts
end
theorem Lm.fills_eq (ws : List Lm) : ∀ xs : List Lm, Lm.fills ws xs = xs.map (Lm.fill ws)
  | [] => rfl
  | t :: ts => by rw [Lm.fills, Lm.fills_eq ws ts]; rfl
theorem Lm.fill_eq (ws : List Lm) (t : Lm) : Lm.fill ws t = if t.kind = 5 then ws.getD t.idx.toNat Lm.nil else .mk t.kind t.idx (t.subs.map (Lm.fill ws)) := by
  cases t
  rw [Lm.fill, Lm.fills_eq]
  rfl
theorem getD_mem {ws : List Lm} {i : Int} (h : 0 ≤ i ∧ i < ws.length) : ∃ w, w ∈ ws ∧ ws[i.toNat]? = some w ∧ ws.getD i.toNat Lm.nil = w := by
  have hl : i.toNat < ws.length := by omega
  exact ⟨ws[i.toNat], List.getElem_mem hl, List.getElem?_eq_getElem hl, by rw [List.getD_eq_getElem?_getD, List.getElem?_eq_getElem hl]; rfl⟩
mutual
theorem Lm.fill_all {ws : List Lm} {c : Int} {z : Nat} (hz : 1 ≤ z) (hw : ∀ w ∈ ws, w.wf ∧ w.good c ∧ w.size ≤ z) : ∀ t : Lm, t.wf → t.good c → t.known ws.length → (Lm.fill ws t).wf ∧ (Lm.fill ws t).good c ∧ (Lm.fill ws t).size ≤ t.size * z
  | .mk k i xs, h1, h2, h3 => by
    obtain ⟨a1, a2, a3, a4⟩ := Lm.fills_all hz hw xs h1.2 h2.2.2.2 h3.2
    have q : (1 + Lm.sizes xs) * z = z + Lm.sizes xs * z := by rw [Nat.add_mul, Nat.one_mul]
    rw [Lm.fill]
    split
    · rename_i hk
      obtain ⟨w, m1, _, m2⟩ := getD_mem (h3.1 hk)
      rw [m2]
      obtain ⟨w1, w2, w3⟩ := hw w m1
      refine ⟨w1, w2, ?_⟩
      rw [Lm.size, q]
      omega
    · refine ⟨⟨by rw [a4]; exact h1.1, a1⟩, ⟨fun e => by rw [h2.1 e]; rfl, h2.2.1, h2.2.2.1, a2⟩, ?_⟩
      rw [Lm.size, Lm.size, q]
      omega
theorem Lm.fills_all {ws : List Lm} {c : Int} {z : Nat} (hz : 1 ≤ z) (hw : ∀ w ∈ ws, w.wf ∧ w.good c ∧ w.size ≤ z) : ∀ xs : List Lm, Lm.wfs xs → Lm.goods c xs → Lm.knowns ws.length xs → Lm.wfs (Lm.fills ws xs) ∧ Lm.goods c (Lm.fills ws xs) ∧ Lm.sizes (Lm.fills ws xs) ≤ Lm.sizes xs * z ∧ (Lm.fills ws xs).length = xs.length
  | [], _, _, _ => ⟨trivial, trivial, Nat.zero_le _, rfl⟩
  | t :: ts, h1, h2, h3 => by
    obtain ⟨a1, a2, a3⟩ := Lm.fill_all hz hw t h1.1 h2.1 h3.1
    obtain ⟨b1, b2, b3, b4⟩ := Lm.fills_all hz hw ts h1.2 h2.2 h3.2
    refine ⟨⟨a1, b1⟩, ⟨a2, b2⟩, ?_, by simp [Lm.fills, b4]⟩
    rw [Lm.fills, Lm.sizes, Lm.sizes, Nat.add_mul]
    omega
end

/-! ### numerals -/
def Lm.v (i : Int) : Lm := .mk 1 i []
def Lm.l (t : Lm) : Lm := .mk 2 0 [t]
def Lm.a (f x : Lm) : Lm := .mk 3 0 [f, x]
def Lm.ones : Nat → Lm
  | 0 => Lm.v 0
  | n + 1 => Lm.a (Lm.v 1) (Lm.ones n)
def Lm.num (n : Nat) : Lm := Lm.l (Lm.l (Lm.ones n))
/-- Is it one more? -/
def Lm.isOne (t : Lm) : Option Lm := match t.subs with
  | f :: x :: _ => if t.kind = 3 ∧ f.same (Lm.v 1) = true then some x else none
  | _ => none
theorem Lm.isOne_size {t x : Lm} (h : t.isOne = some x) : x.size < t.size := by
  unfold Lm.isOne at h
  split at h
  · rename_i f y r hs
    split at h
    · cases h
      exact Lm.size_sub (by rw [hs]; simp)
    · cases h
  · cases h
/-- How many ones, and what stands behind them. -/
def Lm.chain : Nat → Lm → Int × Lm
  | 0, t => (0, t)
  | n + 1, t => match t.isOne with
    | some x => ((Lm.chain n x).1 + 1, (Lm.chain n x).2)
    | none => (0, t)
theorem Lm.chain_fuel : ∀ (n m : Nat) (t : Lm), t.size ≤ n → t.size ≤ m → Lm.chain n t = Lm.chain m t := by
  intro n
  induction n with
  | zero => intro m t h; have := Lm.size_pos t; omega
  | succ n ih =>
    intro m t h1 h2
    cases m with
    | zero => have := Lm.size_pos t; omega
    | succ m =>
      rw [Lm.chain, Lm.chain]
      split
      · rename_i x hx
        have := Lm.isOne_size hx
        rw [ih m x (by omega) (by omega)]
      · rfl
def Lm.ch (t : Lm) : Int × Lm := Lm.chain t.size t
theorem Lm.ch_none {t : Lm} (h : t.isOne = none) : t.ch = (0, t) := by
  unfold Lm.ch
  have := Lm.size_pos t
  obtain ⟨n, hn⟩ : ∃ n, t.size = n + 1 := ⟨t.size - 1, by omega⟩
  rw [hn, Lm.chain, h]
theorem Lm.ch_some {t x : Lm} (h : t.isOne = some x) : t.ch = (x.ch.1 + 1, x.ch.2) := by
  unfold Lm.ch
  have := Lm.isOne_size h
  obtain ⟨n, hn⟩ : ∃ n, t.size = n + 1 := ⟨t.size - 1, by have := Lm.size_pos t; omega⟩
  rw [hn, Lm.chain, h]
  simp only
  rw [Lm.chain_fuel n x.size x (by omega) (Nat.le_refl _)]
theorem Lm.chain_nonneg : ∀ (n : Nat) (t : Lm), 0 ≤ (Lm.chain n t).1 ∧ (Lm.chain n t).1 ≤ n := by
  intro n
  induction n with
  | zero => intro t; simp [Lm.chain]
  | succ n ih =>
    intro t
    rw [Lm.chain]
    split
    · rename_i x hx
      have := ih x
      simp only
      omega
    · simp only
      omega
/-- What number a term is; -1: none. -/
def Lm.val (t : Lm) : Int := if t.same (Lm.l (Lm.v 0)) = true then 1 else
  if t.kind = 2 then (match t.subs with
    | g :: _ => if g.kind = 2 then (match g.subs with
      | b :: _ => if b.ch.2.same (Lm.v 0) = true then b.ch.1 else -1
      | [] => -1) else -1
    | [] => -1) else -1
end Go.Proofs.YtbiadmlfejnbcaaGreatDoor

namespace Go.Proofs.YtbiadmlfejnbcaaGreatDoor
open Go Go.RowKit
set_option linter.unusedVariables false

/-! ### the number of a constant's name -/
def cNm : ByteArray := ⟨#[99]⟩
def constOf (s : ByteArray) : Int := match (List.range 40).find? (fun k => decide (s = cNm ++ dec2 k)) with
  | some k => k
  | none => -1
def rest1 (s : ByteArray) : ByteArray := s.extract 1 s.size
theorem rest1_list (s : ByteArray) : (rest1 s).data.toList = s.data.toList.drop 1 := by
  unfold rest1
  rw [ByteArray.data_extract, Array.toList_extract, List.extract]
  simp
  rw [List.take_of_length_le (by simp)]
theorem ba_ext {a b : ByteArray} (h : a.data.toList = b.data.toList) : a = b := by
  cases a; cases b
  simp only [ByteArray.mk.injEq]
  exact Array.toList_inj.1 h
theorem dec2_digits {n : Nat} (h : n < 100) : (dec2 n).data.toList = Lib.decDigits n := by
  unfold dec2 digit
  rw [Lib.decDigits]
  by_cases h1 : n < 10
  · rw [if_pos h1, dif_pos h1]
  · rw [if_neg h1, dif_neg h1, Lib.decDigits, dif_pos (by omega), ByteArray.data_append]
    simp
theorem dec2_inj : ∀ a < 40, ∀ b < 40, dec2 a = dec2 b → a = b := by decide +kernel
theorem dec2_atoi : ∀ n < 40, Lib.atoi (dec2 n).data.toList = some (n : Int) := by decide +kernel
theorem dec2_pos : ∀ n < 40, 1 ≤ (dec2 n).size := by decide +kernel
theorem itoa_dec2 {n : Nat} (h : n < 100) : (⟨(Lib.itoa (n : Int)).toArray⟩ : ByteArray) = dec2 n := by
  apply ba_ext
  rw [dec2_digits h]
  unfold Lib.itoa
  rw [if_neg (by omega)]
  simp
theorem split1 {s : ByteArray} (h : 1 ≤ s.size) : s.data.toList = UInt8.ofNat (byteAt s 0).toNat :: (rest1 s).data.toList := by
  rw [rest1_list]
  unfold byteAt
  have h2 : 0 < s.data.toList.length := by
    have h3 : s.data.toList.length = s.size := by simp
    omega
  match hl : s.data.toList, h2 with
  | b :: r, _ => simp
theorem byteAt_nm (k : Nat) : byteAt (cNm ++ dec2 k) 0 = 99 := by
  unfold byteAt
  rw [ByteArray.data_append]
  simp [cNm]
theorem rest1_nm (k : Nat) : rest1 (cNm ++ dec2 k) = dec2 k := by
  apply ba_ext
  rw [rest1_list, ByteArray.data_append]
  simp [cNm]
/-- The name of a constant: its number is read from behind the letter. -/
theorem constOf_yes {s : ByteArray} {n : Int} (hs : 1 ≤ s.size) (hl : lettersTo s s.size = true) (h0 : byteAt s 0 = 99) (hi : (⟨(Lib.itoa n).toArray⟩ : ByteArray) = rest1 s) (hn : n < 40) : constOf s = n ∧ 0 ≤ n := by
  have hn0 : 0 ≤ n := by
    rcases Int.lt_or_le n 0 with h | h
    · exfalso
      have h1 : (rest1 s).data.toList = 45 :: Lib.decDigits n.natAbs := by
        rw [← hi]
        simp [Lib.itoa, h]
      have h2 : (45 : UInt8) ∈ s.data.toList := by
        rw [split1 hs, h1]
        simp
      unfold lettersTo at hl
      rw [List.take_of_length_le (by simp)] at hl
      have := List.all_eq_true.1 hl _ h2
      revert this
      decide
    · exact h
  refine ⟨?_, hn0⟩
  obtain ⟨m, rfl⟩ : ∃ m : Nat, n = m := ⟨n.toNat, by omega⟩
  have hm : m < 40 := by omega
  have hs' : s = cNm ++ dec2 m := by
    apply ba_ext
    rw [split1 hs, h0, ← hi, itoa_dec2 (by omega), ByteArray.data_append]
    simp [cNm]
  unfold constOf
  cases hf : (List.range 40).find? (fun k => decide (s = cNm ++ dec2 k)) with
  | none =>
    have := List.find?_eq_none.1 hf m (by simpa using hm)
    simp [hs'] at this
  | some k =>
    have h1 := List.find?_some hf
    have h2 := List.mem_of_find?_eq_some hf
    simp only [decide_eq_true_eq] at h1
    rw [List.mem_range] at h2
    have h3 : dec2 m = dec2 k := by rw [← rest1_nm m, ← hs', h1, rest1_nm]
    simp only
    rw [dec2_inj m hm k h2 h3]
/-- No such name. -/
theorem constOf_no {s : ByteArray} (h : ¬ (byteAt s 0 = 99 ∧ ∃ n : Int, Lib.atoi (rest1 s).data.toList = some n ∧ (⟨(Lib.itoa n).toArray⟩ : ByteArray) = rest1 s ∧ n < 40)) : constOf s = -1 := by
  unfold constOf
  cases hf : (List.range 40).find? (fun k => decide (s = cNm ++ dec2 k)) with
  | none => rfl
  | some k =>
    have h1 := List.find?_some hf
    have h2 := List.mem_of_find?_eq_some hf
    simp only [decide_eq_true_eq] at h1
    rw [List.mem_range] at h2
    exact absurd ⟨by rw [h1, byteAt_nm], k, by rw [h1, rest1_nm]; exact dec2_atoi k h2, by rw [h1, rest1_nm]; exact itoa_dec2 (by omega), by omega⟩ h
theorem atoi_range {s : ByteArray} {n : Int} (hz : s.size ≤ 18) (h : Lib.atoi s.data.toList = some n) : -9223372036854775808 ≤ n ∧ n ≤ 9223372036854775807 := by
  have := Lib.atoi_bound h (by simpa using hz)
  omega

/-! ### what a term is -/
def iL : Lm := .l (.v 0)
def kL : Lm := .l (.l (.v 1))
def sL : Lm := .l (.l (.l (.a (.a (.v 2) (.v 0)) (.a (.v 1) (.v 0)))))
/-- of a leaf -/
def leafL (n : ByteArray) : Lm × Int := if n = iS then (iL, 0) else if n = kS then (kL, 0) else if n = sS then (sL, 0) else if isVar n = true then (Lm.nil, 15) else if constOf n < 0 then (Lm.nil, 1) else (.mk 4 (constOf n) [], 0)
/-- of one put to another -/
def joinL (d : Lm × Int) : List (Lm × Int) → Lm × Int
  | f :: x :: _ => if f.2 = 0 then (.a f.1 x.1, x.2) else (Lm.nil, f.2)
  | _ => d
mutual
def Tm.toL : Tm → Lm × Int
  | .mk n xs => joinL (leafL n) (Tm.toLs xs)
def Tm.toLs : List Tm → List (Lm × Int)
  | [] => []
  | t :: ts => t.toL :: Tm.toLs ts
end
theorem Tm.toL_leaf {t : Tm} (h : t.args = []) : t.toL = leafL t.name := by
  cases t
  rw [Tm.args_mk] at h
  subst h
  rw [Tm.toL, Tm.toLs, joinL]
  · rfl
  · intros; simp_all
theorem Tm.toL_ap {t f x : Tm} (h : t.args = [f, x]) : t.toL = if f.toL.2 = 0 then (.a f.toL.1 x.toL.1, x.toL.2) else (Lm.nil, f.toL.2) := by
  cases t
  rw [Tm.args_mk] at h
  subst h
  rw [Tm.toL, Tm.toLs, Tm.toLs, joinL]
/-- nothing, where something is wrong -/
def fixL (r : Lm × Int) : Lm × Int := if r.2 = 0 then r else (Lm.nil, r.2)
theorem leafL_size (n : ByteArray) : (leafL n).1.size ≤ 10 := by
  unfold leafL
  split
  · decide
  split
  · decide
  split
  · decide
  split
  · decide
  split
  · decide
  · simp [Lm.size, Lm.sizes]
theorem Tm.toL_size : ∀ (N : Nat) (t : Tm), SizeOf.sizeOf t < N → t.fm = true → t.toL.1.size ≤ 10 * t.size := by
  intro N
  induction N with
  | zero => intro t h; omega
  | succ N ih =>
    intro t hN hf
    have hp := Tm.size_pos t
    rcases Tm.fm_cases hf with h0 | ⟨f, x, _, ha, hf1, hx1⟩
    · rw [Tm.toL_leaf h0]
      have := leafL_size t.name
      omega
    · have hs := Tm.size_eq t
      rw [ha] at hs
      simp only [Tm.sizes] at hs
      have a1 := ih f (by have := Tm.lt_of_arg (a := f) (t := t) (by rw [ha]; simp); omega) hf1
      have b1 := ih x (by have := Tm.lt_of_arg (a := x) (t := t) (by rw [ha]; simp); omega) hx1
      rw [Tm.toL_ap ha]
      split
      · simp only [Lm.a, Lm.size, Lm.sizes]
        omega
      · simp only [Lm.nil, Lm.size, Lm.sizes]
        omega
/-- The names of a term that may be, and of what is in it. -/
theorem Tm.chk_name {t : Tm} (h : t.chk = 0) : nameOk t.name = true ∧ Tm.chkL t.args = 0 := by
  rw [Tm.chk_eq] at h
  split at h
  · rename_i h1
    refine ⟨?_, h⟩
    unfold chkOne at h1
    split at h1
    · assumption
    · cases h1
  · contradiction
theorem Tm.chkL_mem {xs : List Tm} (h : Tm.chkL xs = 0) : ∀ t ∈ xs, t.chk = 0 := by
  induction xs with
  | nil => intro t ht; simp at ht
  | cons x xs ih =>
    intro t ht
    rw [Tm.chkL] at h
    split at h
    · rename_i h1
      rcases List.mem_cons.1 ht with rfl | ht
      · exact h1
      · exact ih h t ht
    · contradiction
theorem nameOk_cases {s : ByteArray} (h : nameOk s = true) : 1 ≤ s.size ∧ s.size ≤ 8 ∧ lettersTo s s.size = true := by
  unfold nameOk at h
  simp only [Bool.and_eq_true, decide_eq_true_eq] at h
  exact ⟨h.1.1.1, h.1.1.2, h.2⟩
theorem rest1_size (s : ByteArray) : (rest1 s).size = s.size - 1 := by
  unfold rest1
  simp
end Go.Proofs.YtbiadmlfejnbcaaGreatDoor
