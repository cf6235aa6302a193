/-
  Part 6 of the texts: AbsJ. Conditions: none.
-/
import Derived.Test.YtpajlfdhmjgpnaaPathP5
namespace Go.Proofs.Ytpajlfdhmjgpnaa
open Go Go.RowKit
set_option linter.unusedVariables false
set_option maxHeartbeats 400000

def Ins.go (P : Program) (i : Ins) (s : AS) (K : AS → Prop) : Prop := match i.guard with
  | none => i.kd.goT P (i.dst.getD 0) s i.tag fun v s' => K (s'.put i.dst v)
  | some (g, want) => match s.env g with
    | .one (.st (.bool b)) => (b = want → i.kd.goT P (i.dst.getD 0) s i.tag fun v s' => K (s'.put i.dst v)) ∧ (¬ b = want → K (s.put i.dst (.tup [])))
    | .tup [] => K (s.put i.dst (.tup []))
    | _ => False
theorem run_cons (P : Program) (i : Ins) (l : List Ins) (s : AS) (K : AS → Prop) : Run P (i :: l) s K = i.go P s fun s' => Run P l s' K := rfl
def Ins.reads (i : Ins) : List Nat := (match i.guard with | none => [] | some (g, _) => [g]) ++ i.kd.reads
def Tag.isNone : Tag → Bool
  | .no => true
  | _ => false
/-- It reads the block a alone. -/
def Kd.readsAt : Kd → Bool
  | .load _ _ _ | .fieldAddr _ _ | .nilCheck _ => true
  | _ => false
def Kd.isStore : Kd → Bool
  | .store _ _ _ => true
  | _ => false
def Ins.leaves (a : Nat) (i : Ins) : Bool := match i.tag with
  | .keeps ks => ks.contains a
  | .onb b => i.kd.isStore && !(a == b)
  | .no => false
def Ins.apart (x y : Ins) : Bool := match x.tag with
  | .onb a => x.kd.readsAt && y.leaves a
  | _ => false
/-- x makes a box, y appends. -/
def Ins.makes (x y : Ins) : Bool := (match x with | ⟨some d, none, .alloc _ _, .no⟩ => !y.kd.reads.contains d && !(y.dst == some d) | _ => false) && (match y with | ⟨some _, none, .append _ _ _ _ _ _, _⟩ => true | ⟨some _, none, .callN _ _, .no⟩ => true | _ => false)
/-- x looks for a place in a row, y stores. -/
def Ins.looks (x y : Ins) : Bool := (match x.kd with | .indexAddr _ _ _ => true | _ => false) && x.tag.isNone && y.kd.isStore
/-- Both store, in different blocks. -/
def Ins.beside (x y : Ins) : Bool := match x, y with
  | ⟨none, none, .store _ _ _, .onb a⟩, ⟨none, none, .store _ _ _, .onb b⟩ => !(a == b)
  | _, _ => false
/-- x is a call that turns blocks by their names, y makes a box. -/
def Ins.frames (x y : Ins) : Bool := match x, y with
  | ⟨some c, none, .callW _ xs, .no⟩, ⟨some d, none, .alloc _ _, .no⟩ => !(allReads xs).contains d && !(c == d)
  | _, _ => false
def Ins.indep (x y : Ins) : Bool :=
  (x.kd.det && y.kd.det) && (match x.dst with | none => true | some d => !y.reads.contains d && !(y.dst == some d)) && (match y.dst with | none => true | some d => !x.reads.contains d) &&
  ((x.kd.keepS && y.kd.keepS) || (x.kd.pureS && x.tag.isNone) || (y.kd.pureS && y.tag.isNone) || (x.kd.keepS && y.kd.freshS) || x.apart y || y.apart x || x.makes y || y.makes x || x.looks y || y.looks x || x.beside y || x.frames y)

section
variable {P : Program} {s : AS} {K : AS → Prop}
theorem ptrOpd_reads {kd : Kd} {x : Opd} (h : kd.ptrOpd = some x) : ∀ t ∈ x.reads, t ∈ kd.reads := by
  cases kd <;> simp only [Kd.ptrOpd, Option.some.injEq, reduceCtorEq] at h <;> subst h <;> intro t ht <;> simp [Kd.reads, ht]
theorem tag_loc {t : Tag} {kd : Kd} {env' env2 : Nat → AV} {S1 : AStore} (h : t.ok kd s ⟨env2, S1⟩) (he : ∀ t ∈ kd.reads, env' t = s.env t) : t.ok kd ⟨env', s.S⟩ ⟨env', S1⟩ := by
  cases t with
  | no => trivial
  | keeps ks => exact h
  | onb id =>
    simp only [Tag.ok] at h ⊢
    split at h
    · rename_i x hx
      rw [ev_loc (s := s) (fun t ht => he t (ptrOpd_reads hx t ht))]
      exact h
    · exact h.elim
theorem tag_ext {t : Tag} {kd : Kd} {env' : Nat → AV} {S' : AStore} {s2 : AS} (h : t.ok kd s s2) (he : ∀ t ∈ kd.reads, env' t = s.env t) : t.ok kd ⟨env', S'⟩ ⟨env', S'⟩ := by
  cases t with
  | no => trivial
  | keeps ks => exact fun _ _ => rfl
  | onb id =>
    simp only [Tag.ok] at h ⊢
    split at h
    · rename_i x hx
      rw [ev_loc (s := s) (fun t ht => he t (ptrOpd_reads hx t ht))]
      exact h
    · exact h.elim
theorem go_mono {kd : Kd} {d : Nat} {K K' : AV → AS → Prop} (h : kd.go P d s K) (hk : ∀ v s', K v s' → K' v s') : kd.go P d s K' := by
  by_cases hdet : kd.det = true
  · obtain ⟨v, S1, h1, h2, h3⟩ := go_loc hdet h
    exact (h3 s.env (fun _ _ => rfl)).1 _ (hk _ _ h1)
  · cases kd
    case next x =>
      simp only [Kd.go] at h ⊢
      split at h
      · exact ⟨fun hj => hk _ _ (h.1 hj), fun j x c h1 h2 h3 => hk _ _ (h.2 j x c h1 h2 h3)⟩
      · exact h.elim
    case memoGet ok z m k =>
      simp only [Kd.go] at h ⊢
      split at h
      · exact ⟨h.1, hk _ _ h.2.1, fun cs' ds' x h1 h2 h3 => hk _ _ (h.2.2 cs' ds' x h1 h2 h3)⟩
      · exact h.elim
    all_goals exact absurd rfl hdet
theorem goT_loc {kd : Kd} (hdet : kd.det = true) {d : Nat} {t : Tag} {K : AV → AS → Prop} (h : kd.goT P d s t K) : ∃ v S1, K v ⟨s.env, S1⟩ ∧ t.ok kd s ⟨s.env, S1⟩ ∧ (kd.keepS = true → S1 = s.S) ∧ ∀ env' : Nat → AV, (∀ t ∈ kd.reads, env' t = s.env t) →
    (∀ K' : AV → AS → Prop, K' v ⟨env', S1⟩ → kd.goT P d ⟨env', s.S⟩ t K') ∧ (kd.pureS = true → t.isNone = true → ∀ (S' : AStore) (K' : AV → AS → Prop), K' v ⟨env', S'⟩ → kd.goT P d ⟨env', S'⟩ t K') := by
  obtain ⟨v, S1, ⟨h0, h1⟩, h2, h3⟩ := go_loc hdet h
  refine ⟨v, S1, h1, h0, h2, fun env' he => ⟨fun K' hk => ?_, fun hp ht S' K' hk => ?_⟩⟩
  · exact (h3 env' he).1 _ ⟨tag_loc h0 he, hk⟩
  · cases t with
    | no => exact (h3 env' he).2 hp S' _ ⟨trivial, hk⟩
    | onb id => cases ht
    | keeps ks => cases ht
theorem goT_mono {kd : Kd} {d : Nat} {t : Tag} {K K' : AV → AS → Prop} (h : kd.goT P d s t K) (hk : ∀ v s', t.ok kd s s' → K v s' → K' v s') : kd.goT P d s t K' := by
  exact go_mono h fun v s' hv => ⟨hv.1, hk v s' hv.1 hv.2⟩
theorem goT_go {kd : Kd} {d : Nat} {t : Tag} {K : AV → AS → Prop} (h : kd.goT P d s t K) : kd.go P d s K := by
  exact go_mono h fun v s' hv => hv.2
theorem ins_loc {i : Ins} (hdet : i.kd.det = true) (h : i.go P s K) : ∃ v S1, K ((⟨s.env, S1⟩ : AS).put i.dst v) ∧ (i.kd.keepS = true → S1 = s.S) ∧ ∀ env' : Nat → AV, (∀ t ∈ i.reads, env' t = s.env t) →
    (∀ K' : AS → Prop, K' ((⟨env', S1⟩ : AS).put i.dst v) → i.go P ⟨env', s.S⟩ K') ∧ (i.kd.pureS = true → i.tag.isNone = true → ∀ (S' : AStore) (K' : AS → Prop), K' ((⟨env', S'⟩ : AS).put i.dst v) → i.go P ⟨env', S'⟩ K') := by
  obtain ⟨dst, guard, kd, tag⟩ := i
  unfold Ins.go at h
  dsimp only at h
  cases guard with
  | none =>
    dsimp only at h
    obtain ⟨v, S1, h1, _, h2, h3⟩ := goT_loc hdet h
    refine ⟨v, S1, h1, h2, fun env' he => ?_⟩
    obtain ⟨k1, k2⟩ := h3 env' (fun t ht => he t (by simp [Ins.reads, ht]))
    exact ⟨fun K' hk => by unfold Ins.go; exact k1 _ hk, fun hp ht S' K' hk => by unfold Ins.go; exact k2 hp ht S' _ hk⟩
  | some gw =>
    obtain ⟨g, want⟩ := gw
    dsimp only at h
    have eg : ∀ env' : Nat → AV, (∀ t ∈ (Ins.mk dst (some (g, want)) kd tag).reads, env' t = s.env t) → env' g = s.env g := fun env' he => he g (by simp [Ins.reads])
    split at h
    · rename_i b e1
      by_cases hb : b = want
      · obtain ⟨v, S1, h1, _, h2, h3⟩ := goT_loc hdet (h.1 hb)
        refine ⟨v, S1, h1, h2, fun env' he => ?_⟩
        obtain ⟨k1, k2⟩ := h3 env' (fun t ht => he t (by simp [Ins.reads, ht]))
        have e2 := (eg env' he).trans e1
        exact ⟨fun K' hk => by unfold Ins.go; simp only [e2]; exact ⟨fun _ => k1 _ hk, fun hn => absurd hb hn⟩, fun hp ht S' K' hk => by unfold Ins.go; simp only [e2]; exact ⟨fun _ => k2 hp ht S' _ hk, fun hn => absurd hb hn⟩⟩
      · refine ⟨.tup [], s.S, h.2 hb, fun _ => rfl, fun env' he => ?_⟩
        have e2 := (eg env' he).trans e1
        exact ⟨fun K' hk => by unfold Ins.go; simp only [e2]; exact ⟨fun h => absurd h hb, fun _ => hk⟩, fun hp ht S' K' hk => by unfold Ins.go; simp only [e2]; exact ⟨fun h => absurd h hb, fun _ => hk⟩⟩
    · rename_i e1
      refine ⟨.tup [], s.S, h, fun _ => rfl, fun env' he => ?_⟩
      have e2 := (eg env' he).trans e1
      exact ⟨fun K' hk => by unfold Ins.go; simp only [e2]; exact hk, fun hp ht S' K' hk => by unfold Ins.go; simp only [e2]; exact hk⟩
    · exact h.elim

/-- What only reads does the same where more blocks stand. -/
theorem goT_ext {kd : Kd} {d : Nat} {t : Tag} {K : AV → AS → Prop} (hk : kd.keepS = true) (h : kd.goT P d s t K) : ∃ v, K v s ∧ ∀ S', SubS s.S S' → ∀ env' : Nat → AV, (∀ t ∈ kd.reads, env' t = s.env t) → ∀ K' : AV → AS → Prop, K' v ⟨env', S'⟩ → kd.goT P d ⟨env', S'⟩ t K' := by
  obtain ⟨v, ⟨h0, h1⟩, h2⟩ := go_ext hk h
  exact ⟨v, h1, fun S' hs env' he K' hK => h2 S' hs env' he _ ⟨tag_ext h0 he, hK⟩⟩
theorem go_read {kd : Kd} {d a : Nat} {x : Opd} {K : AV → AS → Prop} (hr : kd.readsAt = true) (hx : kd.ptrOpd = some x) (hp : ptrIs a (s.ev x)) (h : kd.go P d s K) : ∃ v, K v s ∧ ∀ S', S' a = s.S a → ∀ env' : Nat → AV, (∀ t ∈ kd.reads, env' t = s.env t) → ∀ K' : AV → AS → Prop, K' v ⟨env', S'⟩ → kd.go P d ⟨env', S'⟩ K' := by
  cases kd
  case load g n y =>
    simp only [Kd.ptrOpd, Option.some.injEq] at hx
    subst hx
    simp only [Kd.go] at h
    split at h
    · rename_i cs e1
      rw [e1] at hp
      exact hp.elim
    · rename_i id m k off e1
      rw [e1] at hp
      have hp : id = a := hp
      subst hp
      split at h
      · rename_i cs e2
        refine ⟨_, h.2, fun S' hs env' he K' hK => ?_⟩
        have e3 : blkCells S' id m k = some cs := by
          unfold blkCells at e2 ⊢
          rw [hs]
          exact e2
        simp only [Kd.go, ev_loc he, e1, e3]
        exact ⟨h.1, hK⟩
      · exact h.elim
    · exact h.elim
  case fieldAddr off y =>
    simp only [Kd.ptrOpd, Option.some.injEq] at hx
    subst hx
    simp only [Kd.go] at h
    split at h
    · rename_i cs e1
      rw [e1] at hp
      exact hp.elim
    · rename_i id m k o e1
      rw [e1] at hp
      have hp : id = a := hp
      subst hp
      split at h
      · rename_i b e2
        refine ⟨_, h.2, fun S' hs env' he K' hK => ?_⟩
        rw [← hs] at e2
        simp only [Kd.go, ev_loc he, e1, e2]
        exact ⟨h.1, hK⟩
      · exact h.elim
    · exact h.elim
  case nilCheck y =>
    simp only [Kd.ptrOpd, Option.some.injEq] at hx
    subst hx
    simp only [Kd.go] at h
    split at h
    · rename_i cs e1
      rw [e1] at hp
      exact hp.elim
    · rename_i id m k o e1
      rw [e1] at hp
      have hp : id = a := hp
      subst hp
      split at h
      · rename_i b e2
        refine ⟨_, h.2, fun S' hs env' he K' hK => ?_⟩
        rw [← hs] at e2
        simp only [Kd.go, ev_loc he, e1, e2]
        exact ⟨h.1, hK⟩
      · exact h.elim
    · exact h.elim
  all_goals cases hr
theorem goT_read {kd : Kd} {d a : Nat} {K : AV → AS → Prop} (hr : kd.readsAt = true) (h : kd.goT P d s (.onb a) K) : ∃ v, K v s ∧ ∀ S', S' a = s.S a → ∀ env' : Nat → AV, (∀ t ∈ kd.reads, env' t = s.env t) → ∀ K' : AV → AS → Prop, K' v ⟨env', S'⟩ → kd.goT P d ⟨env', S'⟩ (.onb a) K' := by
  obtain ⟨v0, S1, _, h0, _, _⟩ := goT_loc (by cases kd <;> first | rfl | cases hr) h
  have h00 := h0
  simp only [Tag.ok] at h0
  split at h0
  · rename_i x hx
    obtain ⟨v, ⟨g0, g1⟩, g2⟩ := go_read hr hx h0 h
    exact ⟨v, g1, fun S' hs env' he K' hK => g2 S' hs env' he _ ⟨tag_ext g0 he, hK⟩⟩
  · exact h0.elim
theorem go_leaves {kd : Kd} {d a b : Nat} {x : Opd} {K : AV → AS → Prop} (hr : kd.isStore = true) (hab : ¬ a = b) (hx : kd.ptrOpd = some x) (hp : ptrIs b (s.ev x)) (h : kd.go P d s K) : kd.go P d s fun v s' => K v s' ∧ s'.S a = s.S a := by
  cases kd
  case store n y v =>
    simp only [Kd.ptrOpd, Option.some.injEq] at hx
    subst hx
    simp only [Kd.go] at h ⊢
    split at h
    · rename_i id m k off c e1 e2
      rw [e1] at hp
      have hp : id = b := hp
      subst hp
      split at h
      · rename_i e cs e3
        exact ⟨h.1, h.2.1, h.2.2.1, h.2.2.2, updE_ne _ hab _⟩
      · rename_i e w xs e3
        split at h
        · exact ⟨h.1, h.2.1, h.2.2.1, h.2.2.2, updE_ne _ hab _⟩
        · exact h.elim
      · exact h.elim
    · exact h.elim
  all_goals cases hr
theorem goT_leaves {kd : Kd} {d a : Nat} {dst : Option Nat} {g : Option (Nat × Bool)} {t : Tag} {K : AV → AS → Prop} (hl : (Ins.mk dst g kd t).leaves a = true) (h : kd.goT P d s t K) : kd.goT P d s t fun v s' => K v s' ∧ s'.S a = s.S a := by
  cases t with
  | no => cases hl
  | keeps ks =>
    simp only [Ins.leaves] at hl
    exact goT_mono h fun v s' hok hk => ⟨hk, hok a (List.contains_iff_mem.1 hl)⟩
  | onb b =>
    simp only [Ins.leaves, Bool.and_eq_true, Bool.not_eq_true', beq_eq_false_iff_ne] at hl
    obtain ⟨v0, S1, _, h0, _, _⟩ := goT_loc (by cases kd <;> first | rfl | cases hl.1) h
    simp only [Tag.ok] at h0
    split at h0
    · rename_i x hx
      have h2 := go_leaves hl.1 hl.2 hx h0 h
      exact go_mono h2 fun v s' hv => ⟨hv.1.1, hv.1.2, hv.2⟩
    · exact h0.elim
/-- The same for guarded operations: X is what another store must have in common with this one. -/
theorem ins_same {i : Ins} (X : AStore → Prop) (hg : ∀ {d : Nat} {K : AV → AS → Prop}, i.kd.goT P d s i.tag K → ∃ v, K v s ∧ ∀ S', X S' → ∀ env' : Nat → AV, (∀ t ∈ i.kd.reads, env' t = s.env t) → ∀ K' : AV → AS → Prop, K' v ⟨env', S'⟩ → i.kd.goT P d ⟨env', S'⟩ i.tag K') (h : i.go P s K) :
    ∃ v, K (s.put i.dst v) ∧ ∀ S', X S' → ∀ env' : Nat → AV, (∀ t ∈ i.reads, env' t = s.env t) → ∀ K' : AS → Prop, K' ((⟨env', S'⟩ : AS).put i.dst v) → i.go P ⟨env', S'⟩ K' := by
  obtain ⟨dst, guard, kd, tag⟩ := i
  unfold Ins.go at h
  dsimp only at h hg
  cases guard with
  | none =>
    dsimp only at h
    obtain ⟨v, h1, h2⟩ := hg h
    exact ⟨v, h1, fun S' hs env' he K' hK => by unfold Ins.go; exact h2 S' hs env' (fun t ht => he t (by simp [Ins.reads, ht])) _ hK⟩
  | some gw =>
    obtain ⟨g, want⟩ := gw
    dsimp only at h
    have eg : ∀ env' : Nat → AV, (∀ t ∈ (Ins.mk dst (some (g, want)) kd tag).reads, env' t = s.env t) → env' g = s.env g := fun env' he => he g (by simp [Ins.reads])
    split at h
    · rename_i b e1
      by_cases hb : b = want
      · obtain ⟨v, h1, h2⟩ := hg (h.1 hb)
        refine ⟨v, h1, fun S' hs env' he K' hK => ?_⟩
        have e2 := (eg env' he).trans e1
        unfold Ins.go
        simp only [e2]
        exact ⟨fun _ => h2 S' hs env' (fun t ht => he t (by simp [Ins.reads, ht])) _ hK, fun hn => absurd hb hn⟩
      · refine ⟨.tup [], h.2 hb, fun S' hs env' he K' hK => ?_⟩
        have e2 := (eg env' he).trans e1
        unfold Ins.go
        simp only [e2]
        exact ⟨fun h => absurd h hb, fun _ => hK⟩
    · rename_i e1
      refine ⟨.tup [], h, fun S' hs env' he K' hK => ?_⟩
      have e2 := (eg env' he).trans e1
      unfold Ins.go
      simp only [e2]
      exact hK
    · exact h.elim
theorem ins_ext {i : Ins} (hk : i.kd.keepS = true) (h : i.go P s K) : ∃ v, K (s.put i.dst v) ∧ ∀ S', SubS s.S S' → ∀ env' : Nat → AV, (∀ t ∈ i.reads, env' t = s.env t) → ∀ K' : AS → Prop, K' ((⟨env', S'⟩ : AS).put i.dst v) → i.go P ⟨env', S'⟩ K' :=
  ins_same (SubS s.S) (fun h => goT_ext hk h) h
theorem ins_read {i : Ins} {a : Nat} (ht : i.tag = .onb a) (hr : i.kd.readsAt = true) (h : i.go P s K) : ∃ v, K (s.put i.dst v) ∧ ∀ S', S' a = s.S a → ∀ env' : Nat → AV, (∀ t ∈ i.reads, env' t = s.env t) → ∀ K' : AS → Prop, K' ((⟨env', S'⟩ : AS).put i.dst v) → i.go P ⟨env', S'⟩ K' :=
  ins_same (fun S' => S' a = s.S a) (fun h => by rw [ht] at h ⊢; exact goT_read hr h) h
/-- What an operation leaves as it was. -/
theorem ins_keeps {i : Ins} (X : AStore → Prop) (h0 : X s.S) (hg : ∀ {d : Nat} {K : AV → AS → Prop}, i.kd.goT P d s i.tag K → i.kd.goT P d s i.tag fun v s' => K v s' ∧ X s'.S) (h : i.go P s K) : i.go P s fun s' => K s' ∧ X s'.S := by
  obtain ⟨dst, guard, kd, tag⟩ := i
  have hp : ∀ (s' : AS) (v : AV), (s'.put dst v).S = s'.S := fun s' v => by cases dst <;> rfl
  unfold Ins.go at h ⊢
  dsimp only at h hg ⊢
  have key : ∀ {K : AS → Prop}, (kd.goT P (dst.getD 0) s tag fun v s' => K (s'.put dst v)) → kd.goT P (dst.getD 0) s tag fun v s' => K (s'.put dst v) ∧ X (s'.put dst v).S := fun {K} h =>
    goT_mono (hg h) fun v s' _ hk => ⟨hk.1, by rw [hp]; exact hk.2⟩
  cases guard with
  | none => exact key h
  | some gw =>
    obtain ⟨g, want⟩ := gw
    dsimp only at h ⊢
    split at h
    · rename_i b e1
      exact ⟨fun hb => key (h.1 hb), fun hb => ⟨h.2 hb, by rw [hp]; exact h0⟩⟩
    · exact ⟨h, by rw [hp]; exact h0⟩
    · exact h.elim
theorem ins_fresh {i : Ins} (hf : i.kd.freshS = true) (h : i.go P s K) : i.go P s fun s' => K s' ∧ SubS s.S s'.S :=
  ins_keeps (SubS s.S) (fun _ _ hb => hb) (fun {d K} h => by
    exact go_mono (go_fresh hf h) fun v s' hv => ⟨hv.1.1, hv.1.2, hv.2⟩) h
theorem ins_leaves {i : Ins} {a : Nat} (hl : i.leaves a = true) (h : i.go P s K) : i.go P s fun s' => K s' ∧ s'.S a = s.S a :=
  ins_keeps (fun S => S a = s.S a) rfl (fun h => goT_leaves (dst := i.dst) (g := i.guard) hl h) h
theorem put_env {env : Nat → AV} {S1 : AStore} {dd : Option Nat} {v : AV} {t : Nat} (h : dd ≠ some t) : ((⟨env, S1⟩ : AS).put dd v).env t = env t := by
  cases dd with
  | none => rfl
  | some d => exact updE_ne _ (fun e => h (by rw [e])) _
theorem put_comm {env : Nat → AV} {S1 : AStore} {d1 d2 : Option Nat} {v1 v2 : AV} (h : ∀ d, d1 = some d → d2 ≠ some d) : ((⟨env, S1⟩ : AS).put d1 v1).put d2 v2 = ((⟨env, S1⟩ : AS).put d2 v2).put d1 v1 := by
  cases d1 with
  | none => rfl
  | some a =>
    cases d2 with
    | none => rfl
    | some b =>
      have hne : b ≠ a := fun e => h a rfl (by rw [e])
      simp only [AS.put, AS.mk.injEq, and_true]
      funext k
      unfold updE
      by_cases h1 : k = a
      · subst h1
        rw [if_neg (fun e => hne e.symm), if_pos rfl, if_pos rfl]
      · rw [if_neg h1, if_neg h1]
theorem put_S {env : Nat → AV} {S1 : AStore} {dd : Option Nat} {v : AV} : ((⟨env, S1⟩ : AS).put dd v).S = S1 := by cases dd <;> rfl
theorem put_mk {env : Nat → AV} {S1 : AStore} {dd : Option Nat} {v : AV} : (⟨env, S1⟩ : AS).put dd v = ⟨((⟨env, S1⟩ : AS).put dd v).env, S1⟩ := by cases dd <;> rfl
theorem put_env_S {env : Nat → AV} {S1 S2 : AStore} {dd : Option Nat} {v : AV} : ((⟨env, S1⟩ : AS).put dd v).env = ((⟨env, S2⟩ : AS).put dd v).env := by cases dd <;> rfl

theorem later {x y : Ins} (hdy : y.kd.det = true) (hx : ∀ t ∈ x.reads, y.dst ≠ some t) (hy : ∀ t ∈ y.reads, x.dst ≠ some t) (hd : ∀ d, x.dst = some d → y.dst ≠ some d) (X : AStore → Prop) {v : AV}
    (q2 : ∀ S', X S' → ∀ env' : Nat → AV, (∀ t ∈ x.reads, env' t = s.env t) → ∀ K' : AS → Prop, K' ((⟨env', S'⟩ : AS).put x.dst v) → x.go P ⟨env', S'⟩ K')
    (q3 : y.go P (s.put x.dst v) fun s' => K s' ∧ X s'.S) : y.go P s fun s2 => x.go P s2 K := by
  have hS : (s.put x.dst v).S = s.S := by cases x.dst <;> rfl
  obtain ⟨u, S3, r1, r2, r3⟩ := ins_loc hdy q3
  have r1b : X S3 := by
    have := r1.2
    rwa [put_S] at this
  obtain ⟨c1, _⟩ := r3 s.env (fun t ht => by
    cases hxd : x.dst with
    | none => rfl
    | some d => exact (updE_ne _ (fun e => hy t ht (by rw [hxd, e])) _).symm)
  rw [hS] at c1
  refine c1 _ ?_
  rw [put_mk]
  refine q2 S3 r1b _ (fun t ht => put_env (hx t ht)) _ ?_
  have hsx : (s.put x.dst v).env = ((⟨s.env, S3⟩ : AS).put x.dst v).env := by cases x.dst <;> rfl
  have e4 : (⟨((⟨s.env, S3⟩ : AS).put y.dst u).env, S3⟩ : AS).put x.dst v = (⟨(s.put x.dst v).env, S3⟩ : AS).put y.dst u := by
    rw [hsx, ← put_mk, ← put_mk]
    exact (put_comm hd).symm
  rw [e4]
  exact r1.1

/-! ### a box made, and a row appended to -/
def NotRow : Option ABlk → Prop
  | none => True
  | some (.box _ _) => True
  | _ => False
theorem notRow_arow {e : TypeId} {w : Nat} {xs : List (List SV)} : ¬ NotRow (some (.arow e w xs)) := fun h => h
theorem notRow_mrow {e : TypeId} {w : Nat} {xs : List (List SV)} : ¬ NotRow (some (.mrow e w xs)) := fun h => h
theorem listOf_row {S : AStore} {id n : Nat} {ys : List (List SV)} (h : listOf S (.row id n) = some ys) : ¬ NotRow (S id) := by
  intro hn
  simp only [listOf] at h
  cases hS : S id with
  | none => rw [hS] at h; cases h
  | some b =>
    rw [hS] at h hn
    cases b <;> first | exact hn | cases h
theorem listOf_off {S T : AStore} {c : Nat} (hn : NotRow (S c)) (ho : ∀ i, i ≠ c → T i = S i) {a : AC} {ys : List (List SV)} (h : listOf S a = some ys) : listOf T a = some ys := by
  cases a
  case row id n =>
    have hne : id ≠ c := fun e => by subst e; exact listOf_row h hn
    simp only [listOf] at h ⊢
    rw [ho id hne]
    exact h
  case st c => cases c <;> first | exact h | cases h
  all_goals first | exact h | cases h
theorem append_at {mu : Bool} {e : TypeId} {w bytes d : Nat} {x y : Opd} {K : AV → AS → Prop} (h : (Kd.append mu e w bytes x y).go P d s K) :
    ∃ v id b, K v ⟨s.env, updE s.S id (some b)⟩ ∧ (∀ c, NotRow (s.S c) → d ≠ c → id ≠ c) ∧ ∀ (c : Nat) (env' : Nat → AV) (T : AStore), id ≠ c → NotRow (s.S c) → (∀ t ∈ (Kd.append mu e w bytes x y).reads, env' t = s.env t) → (∀ i, i ≠ c → T i = s.S i) → ∀ K' : AV → AS → Prop, K' v ⟨env', updE T id (some b)⟩ → (Kd.append mu e w bytes x y).go P d ⟨env', T⟩ K' := by
  have hex : ∀ env' : Nat → AV, ∀ T, (∀ t ∈ (Kd.append mu e w bytes x y).reads, env' t = s.env t) → (⟨env', T⟩ : AS).ev x = s.ev x ∧ (⟨env', T⟩ : AS).ev y = s.ev y := fun env' T hr =>
    ⟨ev_loc fun t ht => hr t (by simp [Kd.reads, ht]), ev_loc fun t ht => hr t (by simp [Kd.reads, ht])⟩
  simp only [Kd.go] at h
  split at h
  · rename_i cx cy e1 e2
    split at h
    · rename_i ys e3
      obtain ⟨hw, h⟩ := h
      split at h
      · rename_i xs
        refine ⟨_, d, _, h.2.2.2.2.2, fun c _ hc => hc, fun c env' T hid hn hr ho K' hK => ?_⟩
        obtain ⟨q1, q2⟩ := hex env' T hr
        simp only [Kd.go, q1, q2, e1, e2, listOf_off hn ho e3]
        exact ⟨hw, (ho d hid).trans h.1, h.2.1, h.2.2.1, h.2.2.2.1, h.2.2.2.2.1, hK⟩
      · rename_i id m
        split at h
        · rename_i e' w' xs e4
          refine ⟨_, id, _, h.2.2.2, fun c hn _ he => by subst he; rw [e4] at hn; exact hn, fun c env' T hid hn hr ho K' hK => ?_⟩
          obtain ⟨q1, q2⟩ := hex env' T hr
          simp only [Kd.go, q1, q2, e1, e2, listOf_off hn ho e3, ho id hid, e4]
          exact ⟨hw, h.1, h.2.1, h.2.2.1, hK⟩
        · rename_i e' w' xs e4
          refine ⟨_, id, _, h.2.2.2, fun c hn _ he => by subst he; rw [e4] at hn; exact hn, fun c env' T hid hn hr ho K' hK => ?_⟩
          obtain ⟨q1, q2⟩ := hex env' T hr
          simp only [Kd.go, q1, q2, e1, e2, listOf_off hn ho e3, ho id hid, e4]
          exact ⟨hw, h.1, h.2.1, h.2.2.1, hK⟩
        · exact h.elim
      · exact h.elim
    · exact h.elim
  · exact h.elim
theorem updE_swap {α : Type} {f : Nat → α} {i j : Nat} {a b : α} (h : i ≠ j) : updE (updE f i a) j b = updE (updE f j b) i a := by
  funext k
  unfold updE
  by_cases h1 : k = j <;> by_cases h2 : k = i <;> simp_all
theorem updE_far {α : Type} {f : Nat → α} {i j : Nat} {a : α} (h : j ≠ i) : updE f i a j = f j := by
  unfold updE
  simp [h]
/-! ### rows stay as they are, but for what the written ones hold -/
def RowsOk (S T : AStore) : Prop := ∀ id, (∀ e w xs, S id = some (.arow e w xs) ↔ T id = some (.arow e w xs)) ∧ ∀ e w n, (∃ xs, S id = some (.mrow e w xs) ∧ xs.length = n) ↔ (∃ xs, T id = some (.mrow e w xs) ∧ xs.length = n)
theorem RowsOk.refl (S : AStore) : RowsOk S S := fun id => ⟨fun _ _ _ => Iff.rfl, fun _ _ _ => Iff.rfl⟩
theorem RowsOk.symm {S T : AStore} (h : RowsOk S T) : RowsOk T S := fun id => ⟨fun e w xs => ((h id).1 e w xs).symm, fun e w n => ((h id).2 e w n).symm⟩
theorem rowsOk_box {S : AStore} {a : Nat} {e e' : TypeId} {cs cs' : List AC} (h : S a = some (.box e cs)) : RowsOk S (updE S a (some (.box e' cs'))) := fun id => by
  by_cases hi : id = a
  · subst hi
    rw [h, updE_same]
    refine ⟨fun _ _ _ => ⟨fun q => (by cases q), fun q => (by cases q)⟩, fun _ _ _ => ⟨fun ⟨_, q, _⟩ => (by cases q), fun ⟨_, q, _⟩ => (by cases q)⟩⟩
  · rw [updE_ne _ hi]
    exact ⟨fun _ _ _ => Iff.rfl, fun _ _ _ => Iff.rfl⟩
theorem rowsOk_mrow {S : AStore} {a : Nat} {e : TypeId} {w : Nat} {xs ys : List (List SV)} (h : S a = some (.mrow e w xs)) (hl : ys.length = xs.length) : RowsOk S (updE S a (some (.mrow e w ys))) := fun id => by
  by_cases hi : id = a
  · subst hi
    rw [h, updE_same]
    refine ⟨fun _ _ _ => ⟨fun q => (by cases q), fun q => (by cases q)⟩, fun e2 w2 n => ⟨fun ⟨zs, q, hn⟩ => ?_, fun ⟨zs, q, hn⟩ => ?_⟩⟩
    · cases q
      exact ⟨ys, rfl, hl.trans hn⟩
    · cases q
      exact ⟨xs, rfl, hl.symm.trans hn⟩
  · rw [updE_ne _ hi]
    exact ⟨fun _ _ _ => Iff.rfl, fun _ _ _ => Iff.rfl⟩
theorem stC_rows {S T : AStore} (h : RowsOk S T) {c : AC} {x : SV} (hx : stC S c = some x) : stC T c = some x := by
  cases c with
  | row id n =>
    simp only [stC] at hx ⊢
    split at hx
    · rename_i e w xs e1
      rw [((h id).1 e w xs).1 e1]
      exact hx
    · cases hx
  | fn f caps => cases caps <;> exact hx
  | _ => exact hx
theorem stCs_rows {S T : AStore} (h : RowsOk S T) : ∀ {cs : List AC} {xs : List SV}, stCs S cs = some xs → stCs T cs = some xs
  | [], xs, hx => hx
  | c :: cs, xs, hx => by
    simp only [stCs] at hx ⊢
    split at hx
    · rename_i x xs' h1 h2
      rw [stC_rows h h1, stCs_rows h h2]
      exact hx
    · cases hx
theorem rowsOk_new {S : AStore} {a : Nat} {e : TypeId} {cs : List AC} (h : S a = none) : RowsOk S (updE S a (some (.box e cs))) := fun id => by
  by_cases hi : id = a
  · subst hi
    rw [h, updE_same]
    refine ⟨fun _ _ _ => ⟨fun q => (by cases q), fun q => (by cases q)⟩, fun _ _ _ => ⟨fun ⟨_, q, _⟩ => (by cases q), fun ⟨_, q, _⟩ => (by cases q)⟩⟩
  · rw [updE_ne _ hi]
    exact ⟨fun _ _ _ => Iff.rfl, fun _ _ _ => Iff.rfl⟩
theorem outC_rows {S T : AStore} (h : RowsOk S T) {c x : AC} (hx : outC S c = some x) : outC T c = some x := by
  have key : ∀ c : AC, (stC S c).map AC.st = some x → (stC T c).map AC.st = some x := fun c hx => by
    rw [Option.map_eq_some_iff] at hx ⊢
    obtain ⟨a, h1, h2⟩ := hx
    exact ⟨a, stC_rows h h1, h2⟩
  cases c with
  | fn f caps =>
    cases caps with
    | nil => exact hx
    | cons y ys => simp only [outC] at hx ⊢; exact key _ hx
  | eptr cs => exact hx
  | ubool => exact hx
  | _ => simp only [outC] at hx ⊢; exact key _ hx
theorem outCs_rows {S T : AStore} (h : RowsOk S T) : ∀ {cs xs : List AC}, outCs S cs = some xs → outCs T cs = some xs
  | [], xs, hx => hx
  | c :: cs, xs, hx => by
    simp only [outCs] at hx ⊢
    split at hx
    · rename_i x xs' h1 h2
      rw [outC_rows h h1, outCs_rows h h2]
      exact hx
    · cases hx
mutual
theorem outV_rows {S T : AStore} (h : RowsOk S T) : ∀ {v x : AV}, outV S v = some x → outV T v = some x
  | .one c, x, hx => by
    simp only [outV, Option.map_eq_some_iff] at hx ⊢
    obtain ⟨a, h1, h2⟩ := hx
    exact ⟨a, outC_rows h h1, h2⟩
  | .agg cs, x, hx => by
    simp only [outV, Option.map_eq_some_iff] at hx ⊢
    obtain ⟨a, h1, h2⟩ := hx
    exact ⟨a, outCs_rows h h1, h2⟩
  | .tup vs, x, hx => by
    simp only [outV, Option.map_eq_some_iff] at hx ⊢
    obtain ⟨a, h1, h2⟩ := hx
    exact ⟨a, outVs_rows h h1, h2⟩
  | .any, x, hx => hx
theorem outVs_rows {S T : AStore} (h : RowsOk S T) : ∀ {vs xs : List AV}, outVs S vs = some xs → outVs T vs = some xs
  | [], xs, hx => hx
  | v :: vs, xs, hx => by
    simp only [outVs] at hx ⊢
    split at hx
    · rename_i x xs' h1 h2
      rw [outV_rows h h1, outVs_rows h h2]
      exact hx
    · cases hx
end
theorem swap_makes {x y : Ins} (hm : x.makes y = true) (h : x.go P s fun s1 => y.go P s1 K) : y.go P s fun s2 => x.go P s2 K := by
  obtain ⟨xd, xg, xk, xt⟩ := x
  obtain ⟨yd, yg, yk, yt⟩ := y
  unfold Ins.makes at hm
  rw [Bool.and_eq_true] at hm
  obtain ⟨m1, m2⟩ := hm
  split at m1
  · rename_i d e z hx
    cases hx
    split at m2
    · rename_i d' mu ty w bytes x' y' t hy
      cases hy
      simp only [Bool.and_eq_true, Bool.not_eq_true', beq_eq_false_iff_ne, ne_eq, Option.some.injEq] at m1
      obtain ⟨r1, r2⟩ := m1
      have hrd : ∀ k ∈ (Kd.append mu ty w bytes x' y').reads, k ≠ d := fun k hk he => by
        subst he
        rw [List.contains_iff_mem.2 hk] at r1
        cases r1
      simp only [Ins.go, Kd.goT, Kd.go, AS.set, AS.put, Option.getD_some, Tag.ok] at h
      obtain ⟨h1, _, h2⟩ := h
      obtain ⟨v, id, b, k1, k2, k3⟩ := append_at (K := fun v s' => yt.ok (.append mu ty w bytes x' y') ⟨updE s.env d (.one (.ptr d 1 0 0)), updE s.S d (some (.box e z))⟩ s' ∧ K (s'.put (some d') v)) h2
      have hnr : NotRow ((updE s.S d (some (.box e z))) d) := by unfold updE; rw [if_pos rfl]; trivial
      have hid : id ≠ d := k2 d hnr r2
      suffices key : (Kd.append mu ty w bytes x' y').go P d' s fun v s' => yt.ok (.append mu ty w bytes x' y') s s' ∧ (⟨some d, none, .alloc e z, .no⟩ : Ins).go P (s'.put (some d') v) K from key
      refine k3 d s.env s.S hid hnr (fun k hk => (updE_far (hrd k hk)).symm) (fun i hi => (updE_far hi).symm) _ ⟨?_, ?_⟩
      · have k0 := k1.1
        cases yt with
        | no => trivial
        | keeps ks =>
          intro k hk
          have := k0 k hk
          simp only at this ⊢
          by_cases hki : k = id
          · subst hki
            have e0 : ∀ T : AStore, updE T k (some b) k = some b := fun T => by unfold updE; rw [if_pos rfl]
            rw [updE_far hid, e0] at this
            exact (e0 _).trans this
          · exact updE_far hki
        | onb i => exact k0
      · simp only [Ins.go, Kd.goT, Kd.go, AS.set, AS.put, Option.getD_some, Tag.ok]
        refine ⟨by rw [updE_far (Ne.symm hid)]; exact h1, trivial, ?_⟩
        have k4 := k1.2
        simp only [AS.put] at k4
        rw [updE_swap (Ne.symm hid), updE_swap (f := s.env) (Ne.symm r2)] at k4
        exact k4
    · rename_i d' f xs hy
      cases hy
      simp only [Bool.and_eq_true, Bool.not_eq_true', beq_eq_false_iff_ne, ne_eq, Option.some.injEq] at m1
      obtain ⟨r1, r2⟩ := m1
      have hrd : ∀ k ∈ allReads xs, k ≠ d := fun k hk he => by
        subst he
        simp only [Kd.reads] at r1
        rw [List.contains_iff_mem.2 hk] at r1
        cases r1
      simp only [Ins.go, Kd.goT, Kd.go, AS.set, AS.put, Option.getD_some, Tag.ok] at h ⊢
      obtain ⟨h1, _, h2⟩ := h
      split at h2
      · rename_i vs e1
        obtain ⟨e0, w0, ys, hr, hd', _, hK⟩ := h2
        rw [updE_far r2] at hd'
        have e2 : outVs s.S (s.evs xs) = some vs := by
          have := outVs_rows (rowsOk_new (e := e) (cs := z) h1).symm e1
          rwa [evs_loc (s := s) (fun t ht => updE_far (hrd t ht))] at this
        rw [e2]
        refine ⟨e0, w0, ys, hr, hd', trivial, by rw [updE_far (Ne.symm r2)]; exact h1, trivial, ?_⟩
        rw [updE_swap (f := s.S) (i := d') (j := d) r2, updE_swap (f := s.env) (i := d') (j := d) r2]
        exact hK
      · exact h2.elim
    · cases m2
  · cases m1
theorem swap_makes2 {x y : Ins} (hm : x.makes y = true) (h : y.go P s fun s1 => x.go P s1 K) : x.go P s fun s2 => y.go P s2 K := by
  obtain ⟨xd, xg, xk, xt⟩ := x
  obtain ⟨yd, yg, yk, yt⟩ := y
  unfold Ins.makes at hm
  rw [Bool.and_eq_true] at hm
  obtain ⟨m1, m2⟩ := hm
  split at m1
  · rename_i d e z hx
    cases hx
    split at m2
    · rename_i d' mu ty w bytes x' y' t hy
      cases hy
      simp only [Bool.and_eq_true, Bool.not_eq_true', beq_eq_false_iff_ne, ne_eq, Option.some.injEq] at m1
      obtain ⟨r1, r2⟩ := m1
      have hrd : ∀ k ∈ (Kd.append mu ty w bytes x' y').reads, k ≠ d := fun k hk he => by
        subst he
        rw [List.contains_iff_mem.2 hk] at r1
        cases r1
      have h' : (Kd.append mu ty w bytes x' y').go P d' s fun v s' => yt.ok (.append mu ty w bytes x' y') s s' ∧ (⟨some d, none, .alloc e z, .no⟩ : Ins).go P (s'.put (some d') v) K := h
      obtain ⟨v, id, b, k1, k2, k3⟩ := append_at h'
      obtain ⟨k0, k1⟩ := k1
      simp only [Ins.go, Kd.goT, Kd.go, AS.set, AS.put, Option.getD_some, Tag.ok] at k1
      obtain ⟨c1, _, c2⟩ := k1
      have hid : id ≠ d := fun he => by
        subst he
        unfold updE at c1
        rw [if_pos rfl] at c1
        cases c1
      rw [updE_far (Ne.symm hid)] at c1
      have hnr : NotRow (s.S d) := by rw [c1]; trivial
      refine (show s.S d = none ∧ True ∧ (⟨some d', none, .append mu ty w bytes x' y', yt⟩ : Ins).go P ⟨updE s.env d (.one (.ptr d 1 0 0)), updE s.S d (some (.box e z))⟩ K from ⟨c1, trivial, ?_⟩)
      suffices key : (Kd.append mu ty w bytes x' y').go P d' ⟨updE s.env d (.one (.ptr d 1 0 0)), updE s.S d (some (.box e z))⟩ fun v s' => yt.ok (.append mu ty w bytes x' y') ⟨updE s.env d (.one (.ptr d 1 0 0)), updE s.S d (some (.box e z))⟩ s' ∧ K (s'.put (some d') v) from key
      refine k3 d _ _ hid hnr (fun k hk => updE_far (hrd k hk)) (fun i hi => updE_far hi) _ ⟨?_, ?_⟩
      · cases yt with
        | no => trivial
        | keeps ks =>
          intro k hk
          have := k0 k hk
          simp only at this ⊢
          by_cases hki : k = id
          · subst hki
            have e0 : ∀ T : AStore, updE T k (some b) k = some b := fun T => by unfold updE; rw [if_pos rfl]
            rw [e0] at this
            exact (e0 _).trans (this.trans (updE_far hid).symm)
          · exact updE_far hki
        | onb i => exact k0
      · show K ⟨updE (updE s.env d (.one (.ptr d 1 0 0))) d' v, updE (updE s.S d (some (.box e z))) id (some b)⟩
        rw [updE_swap (Ne.symm hid), updE_swap (f := s.env) (Ne.symm r2)]
        exact c2
    · rename_i d' f xs hy
      cases hy
      simp only [Bool.and_eq_true, Bool.not_eq_true', beq_eq_false_iff_ne, ne_eq, Option.some.injEq] at m1
      obtain ⟨r1, r2⟩ := m1
      have hrd : ∀ k ∈ allReads xs, k ≠ d := fun k hk he => by
        subst he
        simp only [Kd.reads] at r1
        rw [List.contains_iff_mem.2 hk] at r1
        cases r1
      simp only [Ins.go, Kd.goT, Kd.go, AS.set, AS.put, Option.getD_some, Tag.ok] at h ⊢
      split at h
      · rename_i vs e1
        obtain ⟨e0, w0, ys, hr, hd', _, h1, _, hK⟩ := h
        rw [updE_far (Ne.symm r2)] at h1
        have e2 : outVs (updE s.S d (some (.box e z))) ((⟨updE s.env d (.one (.ptr d 1 0 0)), updE s.S d (some (.box e z))⟩ : AS).evs xs) = some vs := by
          rw [evs_loc (s := s) (fun t ht => updE_far (hrd t ht))]
          exact outVs_rows (rowsOk_new (e := e) (cs := z) h1) e1
        refine ⟨h1, trivial, ?_⟩
        rw [e2]
        refine ⟨e0, w0, ys, hr, by rw [updE_far r2]; exact hd', trivial, ?_⟩
        rw [updE_swap (f := s.S) (i := d) (j := d') (Ne.symm r2), updE_swap (f := s.env) (i := d) (j := d') (Ne.symm r2)]
        exact hK
      · exact h.elim
    · cases m2
  · cases m1
/-- What a store does: at one block; and the same elsewhere. -/
theorem store_at {n d a : Nat} {x v : Opd} {K : AV → AS → Prop} (hp : ptrIs a (s.ev x)) (h : (Kd.store n x v).go P d s K) :
    ∃ b, K .any ⟨s.env, updE s.S a (some b)⟩ ∧ (∀ T : AStore, T a = s.S a → RowsOk T (updE T a (some b))) ∧ ∀ (env' : Nat → AV) (T : AStore), (∀ t ∈ (Kd.store n x v).reads, env' t = s.env t) → T a = s.S a → RowsOk s.S T → ∀ K' : AV → AS → Prop, K' .any ⟨env', updE T a (some b)⟩ → (Kd.store n x v).go P d ⟨env', T⟩ K' := by
  have hex : ∀ env' : Nat → AV, ∀ T, (∀ t ∈ (Kd.store n x v).reads, env' t = s.env t) → (⟨env', T⟩ : AS).ev x = s.ev x ∧ (⟨env', T⟩ : AS).ev v = s.ev v := fun env' T hr =>
    ⟨ev_loc fun t ht => hr t (by simp [Kd.reads, ht]), ev_loc fun t ht => hr t (by simp [Kd.reads, ht])⟩
  simp only [Kd.go] at h
  split at h
  · rename_i id m k off c e1 e2
    rw [e1] at hp
    have hp : id = a := hp
    subst hp
    split at h
    · rename_i e cs e3
      refine ⟨_, h.2.2.2, fun T hT => rowsOk_box (hT.trans e3), fun env' T hr hT hR K' hK => ?_⟩
      obtain ⟨q1, q2⟩ := hex env' T hr
      simp only [Kd.go, q1, q2, e1, e2, hT, e3]
      exact ⟨h.1, h.2.1, h.2.2.1, hK⟩
    · rename_i e w xs e3
      split at h
      · rename_i c' y e4 e5
        refine ⟨_, h.2.2.2, fun T hT => rowsOk_mrow (hT.trans e3) (by simp), fun env' T hr hT hR K' hK => ?_⟩
        obtain ⟨q1, q2⟩ := hex env' T hr
        simp only [Kd.go, q1, q2, e1, e2, hT, e3, stCs_rows hR e4, e5]
        exact ⟨h.1, h.2.1, h.2.2.1, hK⟩
      · exact h.elim
    · exact h.elim
  · exact h.elim
theorem go_store_rows {kd : Kd} (hk : kd.isStore = true) {d : Nat} {K : AV → AS → Prop} (h : kd.go P d s K) : kd.go P d s fun v s' => K v s' ∧ RowsOk s.S s'.S := by
  cases kd <;> try (cases hk; done)
  case store n x v =>
    have h0 := h
    simp only [Kd.go] at h0
    split at h0
    · rename_i id m k off c e1 e2
      obtain ⟨b, k1, k2, k3⟩ := store_at (a := id) (by rw [e1]; rfl) h
      exact k3 s.env s.S (fun _ _ => rfl) rfl (RowsOk.refl _) _ ⟨k1, k2 s.S rfl⟩
    · exact h0.elim
theorem ins_rows {i : Ins} (hk : i.kd.isStore = true) (h : i.go P s K) : i.go P s fun s' => K s' ∧ RowsOk s.S s'.S :=
  ins_keeps (RowsOk s.S) (RowsOk.refl _) (fun {d K} h => by
    obtain ⟨v, S2, ⟨⟨q1, q2⟩, q3⟩, _, q5⟩ := go_loc (by cases hkd : i.kd <;> rw [hkd] at hk <;> first | rfl | cases hk) (go_store_rows hk h)
    exact (q5 s.env (fun _ _ => rfl)).1 _ ⟨q1, q2, q3⟩) h
theorem go_index_rows {w d : Nat} {x y : Opd} {K : AV → AS → Prop} (h : (Kd.indexAddr w x y).go P d s K) : ∃ v, K v s ∧ ∀ S', RowsOk s.S S' → ∀ env' : Nat → AV, (∀ t ∈ (Kd.indexAddr w x y).reads, env' t = s.env t) → ∀ K' : AV → AS → Prop, K' v ⟨env', S'⟩ → (Kd.indexAddr w x y).go P d ⟨env', S'⟩ K' := by
  have hex : ∀ env' : Nat → AV, ∀ T, (∀ t ∈ (Kd.indexAddr w x y).reads, env' t = s.env t) → (⟨env', T⟩ : AS).ev x = s.ev x ∧ (⟨env', T⟩ : AS).ev y = s.ev y := fun env' T hr =>
    ⟨ev_loc fun t ht => hr t (by simp [Kd.reads, ht]), ev_loc fun t ht => hr t (by simp [Kd.reads, ht])⟩
  simp only [Kd.go] at h
  split at h
  · rename_i c ki n e1 e2
    split at h
    · rename_i xs
      unfold idxK at h
      split at h
      · rename_i z hz
        refine ⟨_, h.2.2, fun S' hS env' hr K' hK => ?_⟩
        obtain ⟨q1, q2⟩ := hex env' S' hr
        simp only [Kd.go, q1, q2, e1, e2, idxK, hz]
        exact ⟨h.1, h.2.1, hK⟩
      · exact h.2.elim
    · rename_i xs
      unfold idxK at h
      split at h
      · rename_i z hz
        refine ⟨_, h.2.2, fun S' hS env' hr K' hK => ?_⟩
        obtain ⟨q1, q2⟩ := hex env' S' hr
        simp only [Kd.go, q1, q2, e1, e2, idxK, hz]
        exact ⟨h.1, h.2.1, hK⟩
      · exact h.2.elim
    · rename_i id m
      split at h
      · rename_i e w' xs e3
        obtain ⟨h1, h2, h⟩ := h
        unfold idxK at h
        split at h
        · rename_i z hz
          refine ⟨_, h.2, fun S' hS env' hr K' hK => ?_⟩
          obtain ⟨q1, q2⟩ := hex env' S' hr
          simp only [Kd.go, q1, q2, e1, e2, ((hS id).1 e w' xs).1 e3, idxK, hz]
          exact ⟨h1, h2, h.1, hK⟩
        · exact h.2.elim
      · rename_i e w' xs e3
        refine ⟨_, h.2.2.2.2, fun S' hS env' hr K' hK => ?_⟩
        obtain ⟨ys, e4, e5⟩ := ((hS id).2 e w' xs.length).1 ⟨xs, e3, rfl⟩
        obtain ⟨q1, q2⟩ := hex env' S' hr
        simp only [Kd.go, q1, q2, e1, e2, e4, e5]
        exact ⟨h.1, h.2.1, h.2.2.1, h.2.2.2.1, hK⟩
      · exact h.elim
    · exact h.elim
  · exact h.elim
theorem ins_index {i : Ins} (hk : (match i.kd with | .indexAddr _ _ _ => true | _ => false) = true) (ht : i.tag.isNone = true) (h : i.go P s K) : ∃ v, K (s.put i.dst v) ∧ ∀ S', RowsOk s.S S' → ∀ env' : Nat → AV, (∀ t ∈ i.reads, env' t = s.env t) → ∀ K' : AS → Prop, K' ((⟨env', S'⟩ : AS).put i.dst v) → i.go P ⟨env', S'⟩ K' :=
  ins_same (RowsOk s.S) (fun {d K} h => by
    obtain ⟨dst, guard, kd, tag⟩ := i
    cases tag <;> try (cases ht; done)
    cases kd <;> try (cases hk; done)
    case indexAddr w x y =>
      obtain ⟨v, q1, q2⟩ := go_index_rows h
      exact ⟨v, q1.2, fun S' hS env' he K' hK => q2 S' hS env' he _ ⟨trivial, hK⟩⟩) h
theorem swap_beside {x y : Ins} (hb : x.beside y = true) (h : x.go P s fun s1 => y.go P s1 K) : y.go P s fun s2 => x.go P s2 K := by
  unfold Ins.beside at hb
  split at hb
  · rename_i n1 p1 v1 a n2 p2 v2 b
    have hab : ¬ a = b := by simpa using hb
    have h' : (Kd.store n1 p1 v1).go P 0 s fun v s' => ptrIs a (s.ev p1) ∧ (⟨none, none, .store n2 p2 v2, .onb b⟩ : Ins).go P s' K := h
    have hpa : ptrIs a (s.ev p1) := by
      obtain ⟨v, S1, h1, _⟩ := go_loc rfl h'
      exact h1.1
    obtain ⟨bx, k1, k2, k3⟩ := store_at hpa h'
    obtain ⟨_, k1⟩ := k1
    have h2 : (Kd.store n2 p2 v2).go P 0 ⟨s.env, updE s.S a (some bx)⟩ fun v s' => ptrIs b ((⟨s.env, updE s.S a (some bx)⟩ : AS).ev p2) ∧ K s' := k1
    have hpb : ptrIs b ((⟨s.env, updE s.S a (some bx)⟩ : AS).ev p2) := by
      obtain ⟨v, S1, h1, _⟩ := go_loc rfl h2
      exact h1.1
    obtain ⟨by_, m1, m2, m3⟩ := store_at hpb h2
    obtain ⟨_, m1⟩ := m1
    have hSb : s.S b = updE s.S a (some bx) b := (updE_ne _ (fun e => hab e.symm) _).symm
    have ep : (⟨s.env, updE s.S a (some bx)⟩ : AS).ev p2 = s.ev p2 := ev_loc fun _ _ => rfl
    rw [ep] at hpb
    suffices key : (Kd.store n2 p2 v2).go P 0 s fun v s' => ptrIs b (s.ev p2) ∧ (⟨none, none, .store n1 p1 v1, .onb a⟩ : Ins).go P s' K from key
    refine m3 s.env s.S (fun _ _ => rfl) hSb (k2 s.S rfl).symm _ ⟨hpb, ?_⟩
    suffices key : (Kd.store n1 p1 v1).go P 0 ⟨s.env, updE s.S b (some by_)⟩ fun v s' => ptrIs a ((⟨s.env, updE s.S b (some by_)⟩ : AS).ev p1) ∧ K s' from key
    refine k3 s.env _ (fun _ _ => rfl) (updE_ne _ hab _) (m2 s.S hSb) _ ⟨by rw [show (⟨s.env, updE s.S b (some by_)⟩ : AS).ev p1 = s.ev p1 from ev_loc fun _ _ => rfl]; exact hpa, ?_⟩
    rw [updE_swap (fun e => hab e.symm)]
    exact m1
  · cases hb
theorem indep_facts {x y : Ins} (i1 : (match x.dst with | none => true | some d => !y.reads.contains d && !(y.dst == some d)) = true) (i2 : (match y.dst with | none => true | some d => !x.reads.contains d) = true) :
    (∀ t ∈ x.reads, y.dst ≠ some t) ∧ (∀ t ∈ y.reads, x.dst ≠ some t) ∧ ∀ d, x.dst = some d → y.dst ≠ some d := by
  refine ⟨fun t ht e => ?_, fun t ht e => ?_, fun d e e' => ?_⟩
  · rw [e] at i2
    simp only [Bool.not_eq_true'] at i2
    exact absurd (List.contains_iff_mem.2 ht) (by rw [i2]; simp)
  · rw [e] at i1
    simp only [Bool.not_eq_true', Bool.and_eq_true] at i1
    exact absurd (List.contains_iff_mem.2 ht) (by rw [i1.1]; simp)
  · rw [e] at i1
    simp only [Bool.and_eq_true, Bool.not_eq_true', beq_eq_false_iff_ne] at i1
    exact i1.2 e'
theorem swap_looks {x y : Ins} (i1 : (match x.dst with | none => true | some d => !y.reads.contains d && !(y.dst == some d)) = true) (i2 : (match y.dst with | none => true | some d => !x.reads.contains d) = true) (i3 : x.looks y = true) (h : x.go P s fun s1 => y.go P s1 K) : y.go P s fun s2 => x.go P s2 K := by
  obtain ⟨hx, hy, hd⟩ := indep_facts i1 i2
  unfold Ins.looks at i3
  simp only [Bool.and_eq_true] at i3
  obtain ⟨v, q1, q2⟩ := ins_index i3.1.1 i3.1.2 h
  have q3 := ins_rows i3.2 q1
  have hdy : y.kd.det = true := by cases hkd : y.kd <;> rw [hkd] at i3 <;> first | rfl | cases i3.2
  have hS : (s.put x.dst v).S = s.S := by cases x.dst <;> rfl
  rw [hS] at q3
  exact later hdy hx hy hd (RowsOk s.S) q2 q3
theorem swap_looks2 {x y : Ins} (i1 : (match x.dst with | none => true | some d => !y.reads.contains d && !(y.dst == some d)) = true) (i2 : (match y.dst with | none => true | some d => !x.reads.contains d) = true) (i3 : y.looks x = true) (h : x.go P s fun s1 => y.go P s1 K) : y.go P s fun s2 => x.go P s2 K := by
  obtain ⟨hx, hy, hd⟩ := indep_facts i1 i2
  unfold Ins.looks at i3
  simp only [Bool.and_eq_true] at i3
  have h' := ins_rows i3.2 h
  obtain ⟨v, T, c1, _, c3⟩ := ins_loc (by cases hkd : x.kd <;> rw [hkd] at i3 <;> first | rfl | cases i3.2) h'
  have c1' := c1.1
  have c2 : RowsOk s.S T := by
    have := c1.2
    rwa [put_S] at this
  obtain ⟨u, q1, q2⟩ := ins_index i3.1.1 i3.1.2 c1'
  rw [put_S] at q2
  have hyr : ∀ t ∈ y.reads, s.env t = ((⟨s.env, T⟩ : AS).put x.dst v).env t := fun t ht => (put_env (hy t ht)).symm
  refine q2 s.S c2.symm s.env hyr _ ?_
  obtain ⟨c4, _⟩ := c3 ((⟨s.env, s.S⟩ : AS).put y.dst u).env (fun t ht => put_env (hx t ht))
  rw [put_mk]
  refine c4 _ ?_
  have e5 : (⟨((⟨s.env, s.S⟩ : AS).put y.dst u).env, T⟩ : AS).put x.dst v = ((⟨s.env, T⟩ : AS).put x.dst v).put y.dst u := by
    have q1 : (⟨((⟨s.env, s.S⟩ : AS).put y.dst u).env, T⟩ : AS) = (⟨s.env, T⟩ : AS).put y.dst u := by rw [put_mk (S1 := T), put_env_S (S1 := T) (S2 := s.S)]
    rw [q1]
    exact (put_comm hd).symm
  rw [e5]
  exact q1
theorem turnS_none : ∀ {rows : List (Nat × ABlk × ABlk)} {T : AStore} {d : Nat}, turnS T rows d = none → (∀ q ∈ rows, q.1 ≠ d) ∧ T d = none
  | [], T, d, h => ⟨by simp, h⟩
  | q :: l, T, d, h => by
    obtain ⟨h1, h2⟩ := turnS_none (rows := l) h
    have hne : q.1 ≠ d := fun e => by
      subst e
      unfold updE at h2
      rw [if_pos rfl] at h2
      cases h2
    refine ⟨fun p hp => ?_, by rwa [updE_far (Ne.symm hne)] at h2⟩
    rcases List.mem_cons.1 hp with rfl | hp
    · exact hne
    · exact h1 p hp
theorem turnS_upd : ∀ {rows : List (Nat × ABlk × ABlk)} {T : AStore} {d : Nat} {b : Option ABlk}, (∀ q ∈ rows, q.1 ≠ d) → turnS (updE T d b) rows = updE (turnS T rows) d b
  | [], T, d, b, h => rfl
  | q :: l, T, d, b, h => by
    show turnS (updE (updE T d b) q.1 (some q.2.2)) l = updE (turnS (updE T q.1 (some q.2.2)) l) d b
    rw [updE_swap (Ne.symm (h q (by simp))), turnS_upd fun p hp => h p (by simp [hp])]
theorem swap_frames {x y : Ins} (hf : x.frames y = true) (h : x.go P s fun s1 => y.go P s1 K) : y.go P s fun s2 => x.go P s2 K := by
  unfold Ins.frames at hf
  split at hf
  · rename_i c f xs d e z
    simp only [Bool.and_eq_true, Bool.not_eq_true', beq_eq_false_iff_ne, ne_eq] at hf
    obtain ⟨r1, r2⟩ := hf
    have hrd : ∀ k ∈ allReads xs, k ≠ d := fun k hk he => by
      subst he
      rw [List.contains_iff_mem.2 hk] at r1
      cases r1
    simp only [Ins.go, Kd.goT, Kd.go, AS.set, AS.put, Option.getD_some, Tag.ok] at h ⊢
    obtain ⟨r, rows, h0, hc, _, h1, _, hK⟩ := h
    obtain ⟨hne, hd⟩ := turnS_none h1
    refine ⟨hd, trivial, ?_⟩
    rw [evs_loc (s := s) (fun t ht => updE_far (hrd t ht))]
    refine ⟨r, rows, fun q hq => by rw [updE_far (hne q hq)]; exact h0 q hq, hc, trivial, ?_⟩
    rw [turnS_upd hne, updE_swap (f := s.env) (i := d) (j := c) (Ne.symm r2)]
    exact hK
  · cases hf
/-- Two operations that do not touch each other's things change places. -/
theorem swap {x y : Ins} (hi : x.indep y = true) (h : x.go P s fun s1 => y.go P s1 K) : y.go P s fun s2 => x.go P s2 K := by
  unfold Ins.indep at hi
  simp only [Bool.and_eq_true, Bool.or_eq_true] at hi
  obtain ⟨⟨⟨⟨det1, det2⟩, i1⟩, i2⟩, i3⟩ := hi
  rcases i3 with (((((i3 | i3) | i3) | i3) | i3) | i3) | i3
  rotate_left
  · exact swap_makes i3 h
  · exact swap_makes2 i3 h
  · exact swap_looks i1 i2 i3 h
  · exact swap_looks2 i1 i2 i3 h
  · exact swap_beside i3 h
  · exact swap_frames i3 h
  have hy : ∀ t ∈ y.reads, x.dst ≠ some t := fun t ht e => by
    rw [e] at i1
    simp only [Bool.not_eq_true', Bool.and_eq_true] at i1
    exact absurd (List.contains_iff_mem.2 ht) (by rw [i1.1]; simp)
  have hx : ∀ t ∈ x.reads, y.dst ≠ some t := fun t ht e => by
    rw [e] at i2
    simp only [Bool.not_eq_true'] at i2
    exact absurd (List.contains_iff_mem.2 ht) (by rw [i2]; simp)
  have hd : ∀ d, x.dst = some d → y.dst ≠ some d := fun d e e' => by
    rw [e] at i1
    simp only [Bool.and_eq_true, Bool.not_eq_true', beq_eq_false_iff_ne] at i1
    exact i1.2 e'
  obtain ⟨v1, S1, h1, k1, m1⟩ := ins_loc det1 h
  rw [put_mk] at h1
  obtain ⟨v2, S2, h2, k2, m2⟩ := ins_loc det2 h1
  dsimp only at h2 k2 m2
  -- y ahead
  obtain ⟨a1, a2⟩ := m2 s.env (fun t ht => (put_env (hy t ht)).symm)
  obtain ⟨b1, b2⟩ := m1 ((⟨s.env, S1⟩ : AS).put y.dst v2).env (fun t ht => put_env (hx t ht))
  have e0 : ∀ T : AStore, (⟨((⟨s.env, S1⟩ : AS).put y.dst v2).env, T⟩ : AS).put x.dst v1 = (⟨((⟨s.env, S1⟩ : AS).put x.dst v1).env, T⟩ : AS).put y.dst v2 := fun T => by
    have q1 : (⟨((⟨s.env, S1⟩ : AS).put y.dst v2).env, T⟩ : AS) = (⟨s.env, T⟩ : AS).put y.dst v2 := by rw [put_mk (S1 := T), put_env_S (S1 := T) (S2 := S1)]
    have q2 : (⟨((⟨s.env, S1⟩ : AS).put x.dst v1).env, T⟩ : AS) = (⟨s.env, T⟩ : AS).put x.dst v1 := by rw [put_mk (S1 := T), put_env_S (S1 := T) (S2 := S1)]
    rw [q1, q2]
    exact (put_comm hd).symm
  rcases i3 with ((((i3 | i3) | i3) | i3) | i3) | i3
  · have e1 := k1 i3.1
    have e2 := k2 i3.2
    subst e1
    subst e2
    refine a1 _ ?_
    rw [put_mk]
    exact b1 _ (by rw [e0]; exact h2)
  · -- x is pure
    obtain ⟨i3, i4⟩ := i3
    have e1 : S1 = s.S := k1 (by cases hk : x.kd <;> rw [hk] at i3 <;> first | rfl | simp [Kd.pureS] at i3)
    subst e1
    refine a1 _ ?_
    rw [put_mk, put_env_S (S1 := S2) (S2 := s.S)]
    exact b2 i3 i4 S2 _ (by rw [e0]; exact h2)
  · -- y is pure
    obtain ⟨i3, i4⟩ := i3
    have e2 : S2 = S1 := k2 (by cases hk : y.kd <;> rw [hk] at i3 <;> first | rfl | simp [Kd.pureS] at i3)
    subst e2
    refine a2 i3 i4 s.S _ ?_
    rw [put_mk, put_env_S (S1 := s.S) (S2 := S2)]
    exact b1 _ (by rw [e0]; exact h2)
  · -- x only reads, y makes a block
    obtain ⟨v, q1, q2⟩ := ins_ext i3.1 h
    have q3 := ins_fresh i3.2 q1
    have hS : (s.put x.dst v).S = s.S := by cases x.dst <;> rfl
    rw [hS] at q3
    exact later det2 hx hy hd (SubS s.S) q2 q3
  · -- x reads a block that y leaves
    simp only [Ins.apart] at i3
    split at i3
    · rename_i a ha
      rw [Bool.and_eq_true] at i3
      obtain ⟨v, q1, q2⟩ := ins_read ha i3.1 h
      have q3 := ins_leaves i3.2 q1
      have hS : (s.put x.dst v).S = s.S := by cases x.dst <;> rfl
      rw [hS] at q3
      exact later det2 hx hy hd (fun S' => S' a = s.S a) q2 q3
    · cases i3
  · -- y reads a block that x leaves
    simp only [Ins.apart] at i3
    split at i3
    · rename_i a ha
      rw [Bool.and_eq_true] at i3
      have h' := ins_leaves i3.2 h
      obtain ⟨v, T, c1, _, c3⟩ := ins_loc det1 h'
      have c1' := c1.1
      have c2 : T a = s.S a := by
        have := c1.2
        rwa [put_S] at this
      obtain ⟨u, q1, q2⟩ := ins_read ha i3.1 c1'
      rw [put_S] at q2
      have hyr : ∀ t ∈ y.reads, s.env t = ((⟨s.env, T⟩ : AS).put x.dst v).env t := fun t ht => (put_env (hy t ht)).symm
      refine q2 s.S c2.symm s.env hyr _ ?_
      obtain ⟨c4, _⟩ := c3 ((⟨s.env, s.S⟩ : AS).put y.dst u).env (fun t ht => put_env (hx t ht))
      rw [put_mk]
      refine c4 _ ?_
      have e5 : (⟨((⟨s.env, s.S⟩ : AS).put y.dst u).env, T⟩ : AS).put x.dst v = ((⟨s.env, T⟩ : AS).put x.dst v).put y.dst u := by
        have q1 : (⟨((⟨s.env, s.S⟩ : AS).put y.dst u).env, T⟩ : AS) = (⟨s.env, T⟩ : AS).put y.dst u := by rw [put_mk (S1 := T), put_env_S (S1 := T) (S2 := s.S)]
        rw [q1]
        exact (put_comm hd).symm
      rw [e5]
      exact q1
    · cases i3
theorem Ins.go_mono {i : Ins} {K' : AS → Prop} (h : i.go P s K) (hk : ∀ s, K s → K' s) : i.go P s K' := by
  obtain ⟨dst, guard, kd, tag⟩ := i
  unfold Ins.go at h ⊢
  dsimp only at h ⊢
  cases guard with
  | none => exact goT_mono h fun v s' _ hv => hk _ hv
  | some gw =>
    obtain ⟨g, want⟩ := gw
    dsimp only at h ⊢
    split at h
    · exact ⟨fun hb => goT_mono (h.1 hb) fun v s' _ hv => hk _ hv, fun hb => hk _ (h.2 hb)⟩
    · exact hk _ h
    · exact h.elim
/-- The first of a row that nothing ahead of it touches comes first. -/
theorem run_front {pre : List Ins} {y : Ins} {post : List Ins} (hi : ∀ x ∈ pre, x.indep y = true) : ∀ {s : AS}, Run P (pre ++ y :: post) s K → y.go P s fun s' => Run P (pre ++ post) s' K := by
  induction pre with
  | nil => intro s h; exact h
  | cons x pre ih =>
    intro s h
    rw [List.cons_append, run_cons] at h
    have h2 : x.go P s fun s' => y.go P s' fun s'' => Run P (pre ++ post) s'' K := Ins.go_mono h fun s' hs => ih (fun z hz => hi z (by simp [hz])) hs
    have h3 := swap (hi x (by simp)) h2
    exact h3
end
end Go.Proofs.Ytpajlfdhmjgpnaa
