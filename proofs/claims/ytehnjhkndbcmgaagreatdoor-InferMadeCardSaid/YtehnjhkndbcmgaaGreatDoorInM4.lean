/-
  Part 4 of the texts: AbsI. Conditions: none.
-/
import Derived.Test.YtehnjhkndbcmgaaGreatDoorInM3
namespace Go.Proofs.YtehnjhkndbcmgaaGreatDoor
open Go Go.RowKit
set_option linter.unusedVariables false
set_option maxHeartbeats 400000
def Opd.reads : Opd → List Nat
  | .t i => [i]
  | .c _ => []
def optReads : Option Opd → List Nat
  | none => []
  | some x => x.reads
def allReads : List Opd → List Nat
  | [] => []
  | x :: xs => x.reads ++ allReads xs
def partReads : List (Nat × Nat × Opd) → List Nat
  | [] => []
  | (_, _, x) :: xs => x.reads ++ partReads xs
def Kd.reads : Kd → List Nat
  | .mov x => x.reads
  | .pick c x y => c.reads ++ (x.reads ++ y.reads)
  | .alloc _ _ => []
  | .box _ x => x.reads
  | .build _ ps => partReads ps
  | .buildSlice _ _ _ xs => allReads xs
  | .load _ _ x => x.reads
  | .store _ x v => x.reads ++ v.reads
  | .fieldAddr _ x => x.reads
  | .field _ _ _ x => x.reads
  | .indexAddr _ x i => x.reads ++ i.reads
  | .indexArr _ _ x i => x.reads ++ i.reads
  | .indexStr x i => x.reads ++ i.reads
  | .bin _ x y => x.reads ++ y.reads
  | .eqB _ x y => x.reads ++ y.reads
  | .eqN _ x => x.reads
  | .eqE _ x => x.reads
  | .never => []
  | .pan x => x.reads
  | .iface _ x => x.reads
  | .strOf x => x.reads
  | .un _ x => x.reads
  | .sliceS x lo hi => x.reads ++ (optReads lo ++ optReads hi)
  | .sliceL _ x lo hi => x.reads ++ (optReads lo ++ optReads hi)
  | .extract _ x => x.reads
  | .len _ x => x.reads
  | .append _ _ _ _ x y => x.reads ++ y.reads
  | .call _ xs => allReads xs
  | .conv _ x => x.reads
  | .nilCheck x => x.reads
  | .mm _ x y => x.reads ++ y.reads
  | .makeSlice _ _ _ _ x y => x.reads ++ y.reads
  | .makeFunc _ xs => allReads xs
  | .callS _ xs => allReads xs
  | .callV f xs => f.reads ++ allReads xs
  | .callN _ xs => allReads xs
  | .callR _ xs => allReads xs
  | .callW _ xs => allReads xs
  | .buildFlat xs => allReads xs
  | .cutP _ x hi => x.reads ++ hi.reads
  | .indexP _ x i => x.reads ++ i.reads
  | .appP _ _ _ x y => x.reads ++ y.reads
  | .restP _ x lo => x.reads ++ lo.reads
  | .appS _ x y => x.reads ++ y.reads
  | .loadL _ _ x => x.reads
  | .indexL _ x i => x.reads ++ i.reads
  | .buildL _ xs => allReads xs
  | .fieldL _ x => x.reads
  | .clearP _ _ _ x => x.reads
  | .makeMap _ => []
  | .lookup _ _ _ m k => m.reads ++ k.reads
  | .mapSet _ m k v => m.reads ++ (k.reads ++ v.reads)
  | .mapEntry _ _ m k => m.reads ++ k.reads
  | .entrySet m i v => m.reads ++ (i.reads ++ v.reads)
  | .rangeM m => m.reads
  | .next x => x.reads
  | .entry x => x.reads
  | .lenM m => m.reads
  | .buildArr xs => allReads xs
  | .makeMemo => []
  | .memoGet _ _ m k => m.reads ++ k.reads
  | .memoSet m k v => m.reads ++ (k.reads ++ v.reads)
def Kd.det : Kd → Bool
  | .next _ | .memoGet _ _ _ _ => false
  | _ => true
def Kd.pureS : Kd → Bool
  | .mov _ | .pick _ _ _ | .build _ _ | .field _ _ _ _ | .indexStr _ _ | .bin _ _ _ | .eqB _ _ _ | .eqN _ _ | .eqE _ _ | .never | .pan _ | .iface _ _ | .strOf _ | .un _ _ | .sliceS _ _ _ | .extract _ _ | .conv _ _ | .mm _ _ _ | .makeFunc _ _ | .buildFlat _ | .buildArr _ | .loadL _ _ _ | .indexL _ _ _ | .buildL _ _ | .fieldL _ _ => true
  | _ => false
def Kd.keepS : Kd → Bool
  | .alloc _ _ | .box _ _ | .buildSlice true _ _ _ | .store _ _ _ | .append _ _ _ _ _ _ | .makeSlice _ _ _ _ _ _ | .callS _ _ | .callV _ _ | .callN _ _ | .callW _ _ | .appP _ _ _ _ _ | .appS _ _ _ | .clearP _ _ _ _ | .makeMap _ | .mapSet _ _ _ _ | .mapEntry _ _ _ _ | .entrySet _ _ _ | .rangeM _ | .next _ | .makeMemo | .memoGet _ _ _ _ => false
  | _ => true
section
variable {P : Program} {s : AS} {d : Nat} {K : AV → AS → Prop} {env' : Nat → AV} {S' : AStore}
theorem ev_loc {x : Opd} (h : ∀ t ∈ x.reads, env' t = s.env t) : (⟨env', S'⟩ : AS).ev x = s.ev x := by
  cases x with
  | t i => exact h i (by simp [Opd.reads])
  | c v => rfl
theorem optI_loc {x : Option Opd} {n : Int} (h : ∀ t ∈ optReads x, env' t = s.env t) : optI (⟨env', S'⟩ : AS) n x = optI s n x := by
  cases x with
  | none => rfl
  | some x => simp only [optI, ev_loc (s := s) (x := x) h]
theorem evs_loc {xs : List Opd} (h : ∀ t ∈ allReads xs, env' t = s.env t) : (⟨env', S'⟩ : AS).evs xs = s.evs xs := by
  induction xs with
  | nil => rfl
  | cons x xs ih =>
    simp only [AS.evs]
    rw [ev_loc (fun t ht => h t (by simp [allReads, ht])), ih (fun t ht => h t (by simp [allReads, ht]))]
theorem caps_loc {xs : List Opd} (h : ∀ t ∈ allReads xs, env' t = s.env t) : (⟨env', S'⟩ : AS).caps xs = s.caps xs := by
  induction xs with
  | nil => rfl
  | cons x xs ih =>
    simp only [AS.caps]
    rw [ev_loc (fun t ht => h t (by simp [allReads, ht])), ih (fun t ht => h t (by simp [allReads, ht]))]
theorem fills_loc {ps : List (Nat × Nat × Opd)} (h : ∀ t ∈ partReads ps, env' t = s.env t) : ∀ cs, fills (⟨env', S'⟩ : AS) cs ps = fills s cs ps := by
  induction ps with
  | nil => intro cs; rfl
  | cons x xs ih =>
    obtain ⟨off, n, x⟩ := x
    intro cs
    simp only [fills]
    rw [ev_loc (fun t ht => h t (by simp [partReads, ht]))]
    simp only [ih (fun t ht => h t (by simp [partReads, ht]))]
theorem flats_loc {xs : List Opd} (h : ∀ t ∈ allReads xs, env' t = s.env t) : flats (⟨env', S'⟩ : AS) xs = flats s xs := by
  induction xs with
  | nil => rfl
  | cons x xs ih =>
    simp only [flats]
    rw [ev_loc (fun t ht => h t (by simp [allReads, ht])), ih (fun t ht => h t (by simp [allReads, ht]))]
theorem elemsP_loc {w : Nat} {xs : List Opd} (h : ∀ t ∈ allReads xs, env' t = s.env t) : elemsP (⟨env', S'⟩ : AS) w xs = elemsP s w xs := by
  induction xs with
  | nil => rfl
  | cons x xs ih =>
    simp only [elemsP]
    rw [ev_loc (fun t ht => h t (by simp [allReads, ht]))]
    simp only [ih (fun t ht => h t (by simp [allReads, ht]))]
theorem elems_loc {w : Nat} {xs : List Opd} (h : ∀ t ∈ allReads xs, env' t = s.env t) : elems (⟨env', s.S⟩ : AS) w xs = elems s w xs := by
  induction xs with
  | nil => rfl
  | cons x xs ih =>
    simp only [elems]
    rw [ev_loc (fun t ht => h t (by simp [allReads, ht]))]
    simp only [ih (fun t ht => h t (by simp [allReads, ht]))]
theorem go_loc {kd : Kd} (hdet : kd.det = true) (h : kd.go P d s K) : ∃ v S1, K v ⟨s.env, S1⟩ ∧ (kd.keepS = true → S1 = s.S) ∧ ∀ env' : Nat → AV, (∀ t ∈ kd.reads, env' t = s.env t) →
    (∀ K' : AV → AS → Prop, K' v ⟨env', S1⟩ → kd.go P d ⟨env', s.S⟩ K') ∧ (kd.pureS = true → ∀ (S' : AStore) (K' : AV → AS → Prop), K' v ⟨env', S'⟩ → kd.go P d ⟨env', S'⟩ K') := by
  cases kd with
  | mov x => exact ⟨_, s.S, h, fun _ => rfl, fun env' he => ⟨fun K' hk => by simp only [Kd.go, ev_loc he]; exact hk, fun _ S' K' hk => by simp only [Kd.go, ev_loc he]; exact hk⟩⟩
  | pick c x y =>
    simp only [Kd.go] at h
    split at h
    · rename_i t e1
      have ec : ∀ env' S', (∀ t ∈ (Kd.pick c x y).reads, env' t = s.env t) → (⟨env', S'⟩ : AS).ev c = .one (.st (.bool t)) ∧ (⟨env', S'⟩ : AS).ev x = s.ev x ∧ (⟨env', S'⟩ : AS).ev y = s.ev y := fun env' S' he =>
        ⟨by rw [ev_loc (fun t ht => he t (by simp [Kd.reads, ht]))]; exact e1, ev_loc (fun t ht => he t (by simp [Kd.reads, ht])), ev_loc (fun t ht => he t (by simp [Kd.reads, ht]))⟩
      cases t with
      | true => exact ⟨_, s.S, h.1 rfl, fun _ => rfl, fun env' he => ⟨fun K' hk => by simp only [Kd.go, ec env' _ he]; exact ⟨fun _ => hk, by simp⟩, fun _ S' K' hk => by simp only [Kd.go, ec env' _ he]; exact ⟨fun _ => hk, by simp⟩⟩⟩
      | false => exact ⟨_, s.S, h.2 rfl, fun _ => rfl, fun env' he => ⟨fun K' hk => by simp only [Kd.go, ec env' _ he]; exact ⟨by simp, fun _ => hk⟩, fun _ S' K' hk => by simp only [Kd.go, ec env' _ he]; exact ⟨by simp, fun _ => hk⟩⟩⟩
    · exact h.elim
  | alloc e z => exact ⟨_, _, h.2, by simp [Kd.keepS], fun env' he => ⟨fun K' hk => ⟨h.1, hk⟩, by simp [Kd.pureS]⟩⟩
  | box e x =>
    simp only [Kd.go] at h
    split at h
    · rename_i cs e1
      exact ⟨_, _, h.2, by simp [Kd.keepS], fun env' he => ⟨fun K' hk => by simp only [Kd.go, ev_loc he, e1]; exact ⟨h.1, hk⟩, by simp [Kd.pureS]⟩⟩
    · exact h.elim
  | build z ps =>
    simp only [Kd.go] at h
    split at h
    · rename_i cs e1
      exact ⟨_, s.S, h, fun _ => rfl, fun env' he => ⟨fun K' hk => by simp only [Kd.go, fills_loc he, e1]; exact hk, fun _ S' K' hk => by simp only [Kd.go, fills_loc he, e1]; exact hk⟩⟩
    · exact h.elim
  | buildSlice mu e w xs =>
    simp only [Kd.go] at h
    split at h
    · rename_i es e1
      cases mu with
      | true =>
        simp only [if_true] at h
        exact ⟨_, _, h.2, by simp [Kd.keepS], fun env' he => ⟨fun K' hk => by simp only [Kd.go, elems_loc he, e1, if_true]; exact ⟨h.1, hk⟩, by simp [Kd.pureS]⟩⟩
      | false =>
        simp only [Bool.false_eq_true, if_false] at h
        exact ⟨_, s.S, h, fun _ => rfl, fun env' he => ⟨fun K' hk => by simp only [Kd.go, elems_loc he, e1, Bool.false_eq_true, if_false]; exact hk, by simp [Kd.pureS]⟩⟩
    · exact h.elim
  | load g n x =>
    simp only [Kd.go] at h
    split at h
    · rename_i cs e1
      exact ⟨_, s.S, h.2, fun _ => rfl, fun env' he => ⟨fun K' hk => by simp only [Kd.go, ev_loc he, e1]; exact ⟨h.1, hk⟩, by simp [Kd.pureS]⟩⟩
    · rename_i id m k off e1
      split at h
      · rename_i cs e2
        exact ⟨_, s.S, h.2, fun _ => rfl, fun env' he => ⟨fun K' hk => by simp only [Kd.go, ev_loc he, e1, e2]; exact ⟨h.1, hk⟩, by simp [Kd.pureS]⟩⟩
      · exact h.elim
    · exact h.elim
  | store n x v =>
    simp only [Kd.go] at h
    split at h
    · rename_i id m k off c e1 e2
      have ec : ∀ env' S', (∀ t ∈ (Kd.store n x v).reads, env' t = s.env t) → (⟨env', S'⟩ : AS).ev x = s.ev x ∧ (⟨env', S'⟩ : AS).ev v = s.ev v := fun env' S' he =>
        ⟨ev_loc (fun t ht => he t (by simp [Kd.reads, ht])), ev_loc (fun t ht => he t (by simp [Kd.reads, ht]))⟩
      split at h
      · rename_i e cs e3
        exact ⟨_, _, h.2.2.2, by simp [Kd.keepS], fun env' he => ⟨fun K' hk => by simp only [Kd.go, ec env' _ he, e1, e2, e3]; exact ⟨h.1, h.2.1, h.2.2.1, hk⟩, by simp [Kd.pureS]⟩⟩
      · rename_i e w xs e3
        split at h
        · rename_i c' x1 e4 e5
          exact ⟨_, _, h.2.2.2, by simp [Kd.keepS], fun env' he => ⟨fun K' hk => by simp only [Kd.go, ec env' _ he, e1, e2, e3, e4, e5]; exact ⟨h.1, h.2.1, h.2.2.1, hk⟩, by simp [Kd.pureS]⟩⟩
        · exact h.elim
      · exact h.elim
    · exact h.elim
  | fieldAddr off x =>
    simp only [Kd.go] at h
    split at h
    · rename_i cs e1
      exact ⟨_, s.S, h, fun _ => rfl, fun env' he => ⟨fun K' hk => by simp only [Kd.go, ev_loc he, e1]; exact hk, by simp [Kd.pureS]⟩⟩
    · rename_i id m k o e1
      split at h
      · rename_i b e2
        exact ⟨_, s.S, h.2, fun _ => rfl, fun env' he => ⟨fun K' hk => by simp only [Kd.go, ev_loc he, e1, e2]; exact ⟨h.1, hk⟩, by simp [Kd.pureS]⟩⟩
      · exact h.elim
    · exact h.elim
  | field g off n x =>
    simp only [Kd.go] at h
    split at h
    · rename_i cs e1
      exact ⟨_, s.S, h.2, fun _ => rfl, fun env' he => ⟨fun K' hk => by simp only [Kd.go, ev_loc he, e1]; exact ⟨h.1, hk⟩, fun _ S' K' hk => by simp only [Kd.go, ev_loc he, e1]; exact ⟨h.1, hk⟩⟩⟩
    · exact h.elim
  | indexAddr w x i =>
    simp only [Kd.go] at h
    have ec : ∀ env' S', (∀ t ∈ (Kd.indexAddr w x i).reads, env' t = s.env t) → (⟨env', S'⟩ : AS).ev x = s.ev x ∧ (⟨env', S'⟩ : AS).ev i = s.ev i := fun env' S' he =>
      ⟨ev_loc (fun t ht => he t (by simp [Kd.reads, ht])), ev_loc (fun t ht => he t (by simp [Kd.reads, ht]))⟩
    split at h
    · rename_i c kk n e1 e2
      split at h
      · rename_i xs
        unfold idxK at h
        obtain ⟨h0, h⟩ := h
        split at h
        · rename_i x1 hx1
          exact ⟨_, s.S, h.2, fun _ => rfl, fun env' he => ⟨fun K' hk => by simp only [Kd.go, ec env' _ he, e1, e2, idxK, hx1]; exact ⟨h0, h.1, hk⟩, by simp [Kd.pureS]⟩⟩
        · exact h.elim
      · rename_i xs
        unfold idxK at h
        obtain ⟨h0, h⟩ := h
        split at h
        · rename_i x1 hx1
          exact ⟨_, s.S, h.2, fun _ => rfl, fun env' he => ⟨fun K' hk => by simp only [Kd.go, ec env' _ he, e1, e2, idxK, hx1]; exact ⟨h0, h.1, hk⟩, by simp [Kd.pureS]⟩⟩
        · exact h.elim
      · rename_i id m
        split at h
        · rename_i e' w' xs hS
          obtain ⟨hm, hw, h⟩ := h
          unfold idxK at h
          obtain ⟨h0, h⟩ := h
          split at h
          · rename_i x1 hx1
            exact ⟨_, s.S, h, fun _ => rfl, fun env' he => ⟨fun K' hk => by simp only [Kd.go, ec env' _ he, e1, e2, hS, idxK, hx1]; exact ⟨hm, hw, h0, hk⟩, by simp [Kd.pureS]⟩⟩
          · exact h.elim
        · rename_i e' w' xs hS
          exact ⟨_, s.S, h.2.2.2.2, fun _ => rfl, fun env' he => ⟨fun K' hk => by simp only [Kd.go, ec env' _ he, e1, e2, hS]; exact ⟨h.1, h.2.1, h.2.2.1, h.2.2.2.1, hk⟩, by simp [Kd.pureS]⟩⟩
        · exact h.elim
      · exact h.elim
    · exact h.elim
  | indexArr n w x i =>
    simp only [Kd.go] at h
    have ec : ∀ env' S', (∀ t ∈ (Kd.indexArr n w x i).reads, env' t = s.env t) → (⟨env', S'⟩ : AS).ev x = s.ev x ∧ (⟨env', S'⟩ : AS).ev i = s.ev i := fun env' S' he =>
      ⟨ev_loc (fun t ht => he t (by simp [Kd.reads, ht])), ev_loc (fun t ht => he t (by simp [Kd.reads, ht]))⟩
    split at h
    · rename_i cs kk k e1 e2
      exact ⟨_, s.S, h.2, fun _ => rfl, fun env' he => ⟨fun K' hk => by simp only [Kd.go, ec env' _ he, e1, e2]; exact ⟨h.1, hk⟩, by simp [Kd.pureS]⟩⟩
    · rename_i id m b o kk k e1 e2
      split at h
      · rename_i bl e3
        exact ⟨_, s.S, h.2.2, fun _ => rfl, fun env' he => ⟨fun K' hk => by simp only [Kd.go, ec env' _ he, e1, e2, e3]; exact ⟨h.1, h.2.1, hk⟩, by simp [Kd.pureS]⟩⟩
      · exact h.elim
    · exact h.elim
  | indexStr x i =>
    simp only [Kd.go] at h
    have ec : ∀ env' S', (∀ t ∈ (Kd.indexStr x i).reads, env' t = s.env t) → (⟨env', S'⟩ : AS).ev x = s.ev x ∧ (⟨env', S'⟩ : AS).ev i = s.ev i := fun env' S' he =>
      ⟨ev_loc (fun t ht => he t (by simp [Kd.reads, ht])), ev_loc (fun t ht => he t (by simp [Kd.reads, ht]))⟩
    split at h
    · rename_i b kk n e1 e2
      exact ⟨_, s.S, h.2, fun _ => rfl, fun env' he => ⟨fun K' hk => by simp only [Kd.go, ec env' _ he, e1, e2]; exact ⟨h.1, hk⟩, fun _ S' K' hk => by simp only [Kd.go, ec env' _ he, e1, e2]; exact ⟨h.1, hk⟩⟩⟩
    · exact h.elim
  | bin op x y =>
    simp only [Kd.go] at h
    have ec : ∀ env' S', (∀ t ∈ (Kd.bin op x y).reads, env' t = s.env t) → (⟨env', S'⟩ : AS).ev x = s.ev x ∧ (⟨env', S'⟩ : AS).ev y = s.ev y := fun env' S' he =>
      ⟨ev_loc (fun t ht => he t (by simp [Kd.reads, ht])), ev_loc (fun t ht => he t (by simp [Kd.reads, ht]))⟩
    split at h
    · rename_i k m k' n e1 e2
      obtain ⟨hk0, h⟩ := h
      have key : ∃ v, K (.one (.st v)) s ∧ ∀ K2 : SV → Prop, K2 v → binI op k m n K2 := by
        cases op <;> simp only [binI] at h ⊢ <;> first | exact h.elim | exact ⟨_, h.2.2, fun K2 hk => ⟨h.1, h.2.1, hk⟩⟩ | exact ⟨_, h.2, fun K2 hk => ⟨h.1, hk⟩⟩ | exact ⟨_, h, fun K2 hk => hk⟩
      obtain ⟨v, k1, k2⟩ := key
      exact ⟨_, s.S, k1, fun _ => rfl, fun env' he => ⟨fun K' hk => by simp only [Kd.go, ec env' _ he, e1, e2]; exact ⟨hk0, k2 _ hk⟩, fun _ S' K' hk => by simp only [Kd.go, ec env' _ he, e1, e2]; exact ⟨hk0, k2 _ hk⟩⟩⟩
    · rename_i m n e1 e2
      have key : ∃ v, K (.one (.st v)) s ∧ ∀ K2 : SV → Prop, K2 v → binS op m n K2 := by
        cases op <;> simp only [binS] at h ⊢ <;> first | exact h.elim | exact ⟨_, h.2, fun K2 hk => ⟨h.1, hk⟩⟩ | exact ⟨_, h, fun K2 hk => hk⟩
      obtain ⟨v, k1, k2⟩ := key
      exact ⟨_, s.S, k1, fun _ => rfl, fun env' he => ⟨fun K' hk => by simp only [Kd.go, ec env' _ he, e1, e2]; exact k2 _ hk, fun _ S' K' hk => by simp only [Kd.go, ec env' _ he, e1, e2]; exact k2 _ hk⟩⟩
    · exact h.elim
  | never => exact (show False from h).elim
  | pan x => exact (show False from h).elim
  | iface t x =>
    simp only [Kd.go] at h
    split at h
    · rename_i k n e1
      exact ⟨_, s.S, h, fun _ => rfl, fun env' he => ⟨fun K' hk => by simp only [Kd.go, ev_loc he, e1]; exact hk, fun _ S' K' hk => by simp only [Kd.go, ev_loc he, e1]; exact hk⟩⟩
    · exact h.elim
  | strOf x =>
    simp only [Kd.go] at h
    split at h
    · rename_i ys e1
      split at h
      · rename_i ns e2
        exact ⟨_, s.S, h.2, fun _ => rfl, fun env' he => ⟨fun K' hk => by simp only [Kd.go, ev_loc he, e1, e2]; exact ⟨h.1, hk⟩, fun _ S' K' hk => by simp only [Kd.go, ev_loc he, e1, e2]; exact ⟨h.1, hk⟩⟩⟩
      · exact h.elim
    · exact h.elim
  | eqN neg x =>
    simp only [Kd.go] at h
    split at h
    · rename_i xs e1
      exact ⟨_, s.S, h, fun _ => rfl, fun env' he => ⟨fun K' hk => by simp only [Kd.go, ev_loc he, e1]; exact hk, fun _ S' K' hk => by simp only [Kd.go, ev_loc he, e1]; exact hk⟩⟩
    · exact h.elim
  | eqE neg x =>
    simp only [Kd.go] at h
    split at h
    · rename_i e1
      exact ⟨_, s.S, h, fun _ => rfl, fun env' he => ⟨fun K' hk => by simp only [Kd.go, ev_loc he, e1]; exact hk, fun _ S' K' hk => by simp only [Kd.go, ev_loc he, e1]; exact hk⟩⟩
    · rename_i e1
      exact ⟨_, s.S, h, fun _ => rfl, fun env' he => ⟨fun K' hk => by simp only [Kd.go, ev_loc he, e1]; exact hk, fun _ S' K' hk => by simp only [Kd.go, ev_loc he, e1]; exact hk⟩⟩
    · exact h.elim
  | eqB neg x y =>
    simp only [Kd.go] at h
    have ec : ∀ env' S', (∀ t ∈ (Kd.eqB neg x y).reads, env' t = s.env t) → (⟨env', S'⟩ : AS).ev x = s.ev x ∧ (⟨env', S'⟩ : AS).ev y = s.ev y := fun env' S' he =>
      ⟨ev_loc (fun t ht => he t (by simp [Kd.reads, ht])), ev_loc (fun t ht => he t (by simp [Kd.reads, ht]))⟩
    split at h
    · rename_i m n e1 e2
      exact ⟨_, s.S, h, fun _ => rfl, fun env' he => ⟨fun K' hk => by simp only [Kd.go, ec env' _ he, e1, e2]; exact hk, fun _ S' K' hk => by simp only [Kd.go, ec env' _ he, e1, e2]; exact hk⟩⟩
    · exact h.elim
  | un op x =>
    simp only [Kd.go] at h
    split at h
    · rename_i b e1
      exact ⟨_, s.S, h, fun _ => rfl, fun env' he => ⟨fun K' hk => by simp only [Kd.go, ev_loc he, e1]; exact hk, fun _ S' K' hk => by simp only [Kd.go, ev_loc he, e1]; exact hk⟩⟩
    · rename_i k n e1
      exact ⟨_, s.S, h.2, fun _ => rfl, fun env' he => ⟨fun K' hk => by simp only [Kd.go, ev_loc he, e1]; exact ⟨h.1, hk⟩, fun _ S' K' hk => by simp only [Kd.go, ev_loc he, e1]; exact ⟨h.1, hk⟩⟩⟩
    · exact h.elim
  | sliceS x lo hi =>
    simp only [Kd.go] at h
    have ec : ∀ env' S', (∀ t ∈ (Kd.sliceS x lo hi).reads, env' t = s.env t) → (⟨env', S'⟩ : AS).ev x = s.ev x ∧ (∀ n, optI (⟨env', S'⟩ : AS) n lo = optI s n lo) ∧ (∀ n, optI (⟨env', S'⟩ : AS) n hi = optI s n hi) := fun env' S' he =>
      ⟨ev_loc (fun t ht => he t (by simp [Kd.reads, ht])), fun n => optI_loc (fun t ht => he t (by simp [Kd.reads, ht])), fun n => optI_loc (fun t ht => he t (by simp [Kd.reads, ht]))⟩
    split at h
    · rename_i b e1
      split at h
      · rename_i l hh e2 e3
        exact ⟨_, s.S, h.2, fun _ => rfl, fun env' he => ⟨fun K' hk => by simp only [Kd.go, ec env' _ he, e1, e2, e3]; exact ⟨h.1, hk⟩, fun _ S' K' hk => by simp only [Kd.go, ec env' _ he, e1, e2, e3]; exact ⟨h.1, hk⟩⟩⟩
      · exact h.elim
    · exact h.elim
  | sliceL w x lo hi =>
    simp only [Kd.go] at h
    have ec : ∀ env' S', (∀ t ∈ (Kd.sliceL w x lo hi).reads, env' t = s.env t) → (⟨env', S'⟩ : AS).ev x = s.ev x ∧ (∀ n, optI (⟨env', S'⟩ : AS) n lo = optI s n lo) ∧ (∀ n, optI (⟨env', S'⟩ : AS) n hi = optI s n hi) := fun env' S' he =>
      ⟨ev_loc (fun t ht => he t (by simp [Kd.reads, ht])), fun n => optI_loc (fun t ht => he t (by simp [Kd.reads, ht])), fun n => optI_loc (fun t ht => he t (by simp [Kd.reads, ht]))⟩
    split at h
    · rename_i c e1
      split at h
      · rename_i xs e0
        split at h
        · rename_i l hh e2 e3
          exact ⟨_, s.S, h.2.2, fun _ => rfl, fun env' he => ⟨fun K' hk => by simp only [Kd.go, ec env' _ he, e1, e0, e2, e3]; exact ⟨h.1, h.2.1, hk⟩, by simp [Kd.pureS]⟩⟩
        · exact h.elim
      · exact h.elim
    · exact h.elim
  | extract i x =>
    simp only [Kd.go] at h
    split at h
    · rename_i vs e1
      split at h
      · rename_i v e2
        exact ⟨_, s.S, h, fun _ => rfl, fun env' he => ⟨fun K' hk => by simp only [Kd.go, ev_loc he, e1, e2]; exact hk, fun _ S' K' hk => by simp only [Kd.go, ev_loc he, e1, e2]; exact hk⟩⟩
      · exact h.elim
    · exact h.elim
  | len str x =>
    simp only [Kd.go] at h
    split at h
    · rename_i c e1
      split at h
      · rename_i n e2
        exact ⟨_, s.S, h, fun _ => rfl, fun env' he => ⟨fun K' hk => by simp only [Kd.go, ev_loc he, e1, e2]; exact hk, by simp [Kd.pureS]⟩⟩
      · exact h.elim
    · exact h.elim
  | append mu e w bytes x y =>
    simp only [Kd.go] at h
    have ec : ∀ env' S', (∀ t ∈ (Kd.append mu e w bytes x y).reads, env' t = s.env t) → (⟨env', S'⟩ : AS).ev x = s.ev x ∧ (⟨env', S'⟩ : AS).ev y = s.ev y := fun env' S' he =>
      ⟨ev_loc (fun t ht => he t (by simp [Kd.reads, ht])), ev_loc (fun t ht => he t (by simp [Kd.reads, ht]))⟩
    split at h
    · rename_i cx cy e1 e2
      split at h
      · rename_i ys e3
        obtain ⟨h1, h⟩ := h
        split at h
        · rename_i xs
          exact ⟨_, _, h.2.2.2.2.2, by simp [Kd.keepS], fun env' he => ⟨fun K' hk => by simp only [Kd.go, ec env' _ he, e1, e2, e3]; exact ⟨h1, h.1, h.2.1, h.2.2.1, h.2.2.2.1, h.2.2.2.2.1, hk⟩, by simp [Kd.pureS]⟩⟩
        · rename_i id m
          split at h
          · rename_i e' w' xs e4
            exact ⟨_, _, h.2.2.2, by simp [Kd.keepS], fun env' he => ⟨fun K' hk => by simp only [Kd.go, ec env' _ he, e1, e2, e3, e4]; exact ⟨h1, h.1, h.2.1, h.2.2.1, hk⟩, by simp [Kd.pureS]⟩⟩
          · rename_i e' w' xs e4
            exact ⟨_, _, h.2.2.2, by simp [Kd.keepS], fun env' he => ⟨fun K' hk => by simp only [Kd.go, ec env' _ he, e1, e2, e3, e4]; exact ⟨h1, h.1, h.2.1, h.2.2.1, hk⟩, by simp [Kd.pureS]⟩⟩
          · exact h.elim
        · exact h.elim
      · exact h.elim
    · exact h.elim
  | call f xs =>
    simp only [Kd.go] at h
    split at h
    · rename_i vs e1
      obtain ⟨r, hr, hK⟩ := h
      exact ⟨_, s.S, hK, fun _ => rfl, fun env' he => ⟨fun K' hk => by simp only [Kd.go, evs_loc he, e1]; exact ⟨r, hr, hk⟩, by simp [Kd.pureS]⟩⟩
    · exact h.elim
  | loadL g n x =>
    simp only [Kd.go] at h
    split at h
    · rename_i cs e1
      exact ⟨_, s.S, h.2, fun _ => rfl, fun env' he => ⟨fun K' hk => by simp only [Kd.go, ev_loc he, e1]; exact ⟨h.1, hk⟩, fun _ S' K' hk => by simp only [Kd.go, ev_loc he, e1]; exact ⟨h.1, hk⟩⟩⟩
    · exact h.elim
  | fieldL off x =>
    simp only [Kd.go] at h
    split at h
    · rename_i cs e1
      exact ⟨_, s.S, h, fun _ => rfl, fun env' he => ⟨fun K' hk => by simp only [Kd.go, ev_loc he, e1]; exact hk, fun _ S' K' hk => by simp only [Kd.go, ev_loc he, e1]; exact hk⟩⟩
    · exact h.elim
  | buildL w xs =>
    simp only [Kd.go] at h
    split at h
    · rename_i es e1
      exact ⟨_, s.S, h, fun _ => rfl, fun env' he => ⟨fun K' hk => by simp only [Kd.go, elemsP_loc he, e1]; exact hk, fun _ S' K' hk => by simp only [Kd.go, elemsP_loc he, e1]; exact hk⟩⟩
    · exact h.elim
  | indexL w x i =>
    simp only [Kd.go] at h
    have ec : ∀ env' S', (∀ t ∈ (Kd.indexL w x i).reads, env' t = s.env t) → (⟨env', S'⟩ : AS).ev x = s.ev x ∧ (⟨env', S'⟩ : AS).ev i = s.ev i := fun env' S' he =>
      ⟨ev_loc (fun t ht => he t (by simp [Kd.reads, ht])), ev_loc (fun t ht => he t (by simp [Kd.reads, ht]))⟩
    split at h
    · rename_i xs kk n e1 e2
      unfold idxK at h
      obtain ⟨h0, h⟩ := h
      split at h
      · rename_i x1 hx1
        exact ⟨_, s.S, h.2, fun _ => rfl, fun env' he => ⟨fun K' hk => by simp only [Kd.go, ec env' _ he, e1, e2, idxK, hx1]; exact ⟨h0, h.1, hk⟩, fun _ S' K' hk => by simp only [Kd.go, ec env' _ he, e1, e2, idxK, hx1]; exact ⟨h0, h.1, hk⟩⟩⟩
      · exact h.elim
    · rename_i xs kk n e1 e2
      unfold idxK at h
      obtain ⟨h0, h⟩ := h
      split at h
      · rename_i x1 hx1
        exact ⟨_, s.S, h.2, fun _ => rfl, fun env' he => ⟨fun K' hk => by simp only [Kd.go, ec env' _ he, e1, e2, idxK, hx1]; exact ⟨h0, h.1, hk⟩, fun _ S' K' hk => by simp only [Kd.go, ec env' _ he, e1, e2, idxK, hx1]; exact ⟨h0, h.1, hk⟩⟩⟩
      · exact h.elim
    · exact h.elim
  | appS e x y =>
    simp only [Kd.go] at h
    have ec : ∀ env' S', (∀ t ∈ (Kd.appS e x y).reads, env' t = s.env t) → (⟨env', S'⟩ : AS).ev x = s.ev x ∧ (⟨env', S'⟩ : AS).ev y = s.ev y := fun env' S' he =>
      ⟨ev_loc (fun t ht => he t (by simp [Kd.reads, ht])), ev_loc (fun t ht => he t (by simp [Kd.reads, ht]))⟩
    split at h
    · rename_i cx b e1 e2
      split at h
      · rename_i xs
        exact ⟨_, _, h.2.2, by simp [Kd.keepS], fun env' he => ⟨fun K' hk => by simp only [Kd.go, ec env' _ he, e1, e2]; exact ⟨h.1, h.2.1, hk⟩, by simp [Kd.pureS]⟩⟩
      · rename_i id m
        split at h
        · rename_i e' w' xs e4
          exact ⟨_, _, h.2.2, by simp [Kd.keepS], fun env' he => ⟨fun K' hk => by simp only [Kd.go, ec env' _ he, e1, e2, e4]; exact ⟨h.1, h.2.1, hk⟩, by simp [Kd.pureS]⟩⟩
        · exact h.elim
      · exact h.elim
    · exact h.elim
  | restP w x lo =>
    simp only [Kd.go] at h
    have ec : ∀ env' S', (∀ t ∈ (Kd.restP w x lo).reads, env' t = s.env t) → (⟨env', S'⟩ : AS).ev x = s.ev x ∧ (⟨env', S'⟩ : AS).ev lo = s.ev lo := fun env' S' he =>
      ⟨ev_loc (fun t ht => he t (by simp [Kd.reads, ht])), ev_loc (fun t ht => he t (by simp [Kd.reads, ht]))⟩
    split at h
    · rename_i id m kk oo e1 e2
      split at h
      · rename_i e' w' xs e3
        exact ⟨_, s.S, h.2.2, fun _ => rfl, fun env' he => ⟨fun K' hk => by simp only [Kd.go, ec env' _ he, e1, e2, e3]; exact ⟨h.1, h.2.1, hk⟩, by simp [Kd.pureS]⟩⟩
      · exact h.elim
    · exact h.elim
  | clearP e w z x =>
    simp only [Kd.go] at h
    split at h
    · rename_i id o m e1
      split at h
      · rename_i e' w' xs e3
        exact ⟨_, _, h.2, by simp [Kd.keepS], fun env' he => ⟨fun K' hk => by simp only [Kd.go, ev_loc he, e1, e3]; exact ⟨h.1, hk⟩, by simp [Kd.pureS]⟩⟩
      · exact h.elim
    · exact h.elim
  | cutP w x hi =>
    simp only [Kd.go] at h
    have ec : ∀ env' S', (∀ t ∈ (Kd.cutP w x hi).reads, env' t = s.env t) → (⟨env', S'⟩ : AS).ev x = s.ev x ∧ (⟨env', S'⟩ : AS).ev hi = s.ev hi := fun env' S' he =>
      ⟨ev_loc (fun t ht => he t (by simp [Kd.reads, ht])), ev_loc (fun t ht => he t (by simp [Kd.reads, ht]))⟩
    split at h
    · rename_i id k m kk hh e1 e2
      split at h
      · rename_i e' w' xs e3
        exact ⟨_, s.S, h.2.2, fun _ => rfl, fun env' he => ⟨fun K' hk => by simp only [Kd.go, ec env' _ he, e1, e2, e3]; exact ⟨h.1, h.2.1, hk⟩, by simp [Kd.pureS]⟩⟩
      · exact h.elim
    · exact h.elim
  | indexP w x i =>
    simp only [Kd.go] at h
    have ec : ∀ env' S', (∀ t ∈ (Kd.indexP w x i).reads, env' t = s.env t) → (⟨env', S'⟩ : AS).ev x = s.ev x ∧ (⟨env', S'⟩ : AS).ev i = s.ev i := fun env' S' he =>
      ⟨ev_loc (fun t ht => he t (by simp [Kd.reads, ht])), ev_loc (fun t ht => he t (by simp [Kd.reads, ht]))⟩
    split at h
    · rename_i id k m kk hh e1 e2
      split at h
      · rename_i e' w' xs e3
        exact ⟨_, s.S, h.2.2, fun _ => rfl, fun env' he => ⟨fun K' hk => by simp only [Kd.go, ec env' _ he, e1, e2, e3]; exact ⟨h.1, h.2.1, hk⟩, by simp [Kd.pureS]⟩⟩
      · exact h.elim
    · exact h.elim
  | appP e w bytes x y =>
    simp only [Kd.go] at h
    have ec : ∀ env' S', (∀ t ∈ (Kd.appP e w bytes x y).reads, env' t = s.env t) → (⟨env', S'⟩ : AS).ev x = s.ev x ∧ (⟨env', S'⟩ : AS).ev y = s.ev y := fun env' S' he =>
      ⟨ev_loc (fun t ht => he t (by simp [Kd.reads, ht])), ev_loc (fun t ht => he t (by simp [Kd.reads, ht]))⟩
    split at h
    · rename_i id k m cy e1 e2
      split at h
      · rename_i e' w' xs ys e3 e4
        exact ⟨_, _, h.2.2.2.2, by simp [Kd.keepS], fun env' he => ⟨fun K' hk => by simp only [Kd.go, ec env' _ he, e1, e2, e3, e4]; exact ⟨h.1, h.2.1, h.2.2.1, h.2.2.2.1, hk⟩, by simp [Kd.pureS]⟩⟩
      · exact h.elim
    · exact h.elim
  | buildFlat xs =>
    simp only [Kd.go] at h
    split at h
    · rename_i es e1
      exact ⟨_, s.S, h, fun _ => rfl, fun env' he => ⟨fun K' hk => by simp only [Kd.go, flats_loc he, e1]; exact hk, fun _ S' K' hk => by simp only [Kd.go, flats_loc he, e1]; exact hk⟩⟩
    · exact h.elim
  | callR f xs =>
    simp only [Kd.go] at h
    obtain ⟨r, rows, h0, hr, hK⟩ := h
    exact ⟨_, s.S, hK, fun _ => rfl, fun env' he => ⟨fun K' hk => by simp only [Kd.go, evs_loc he]; exact ⟨r, rows, h0, hr, hk⟩, by simp [Kd.pureS]⟩⟩
  | callW f xs =>
    simp only [Kd.go] at h
    obtain ⟨r, rows, h0, hr, hK⟩ := h
    exact ⟨_, _, hK, by simp [Kd.keepS], fun env' he => ⟨fun K' hk => by simp only [Kd.go, evs_loc he]; exact ⟨r, rows, h0, hr, hk⟩, by simp [Kd.pureS]⟩⟩
  | callN f xs =>
    simp only [Kd.go] at h
    split at h
    · rename_i vs e1
      obtain ⟨mu, e, w, ys, hr, hd, hK⟩ := h
      exact ⟨_, _, hK, by simp [Kd.keepS], fun env' he => ⟨fun K' hk => by simp only [Kd.go, evs_loc he, e1]; exact ⟨mu, e, w, ys, hr, hd, hk⟩, by simp [Kd.pureS]⟩⟩
    · exact h.elim
  | makeMap kt => exact ⟨_, _, h.2, by simp [Kd.keepS], fun env' he => ⟨fun K' hk => ⟨h.1, hk⟩, by simp [Kd.pureS]⟩⟩
  | lookup kt ok z m k =>
    simp only [Kd.go] at h
    have ec : ∀ env' S', (∀ t ∈ (Kd.lookup kt ok z m k).reads, env' t = s.env t) → (⟨env', S'⟩ : AS).ev m = s.ev m ∧ (⟨env', S'⟩ : AS).ev k = s.ev k := fun env' S' he =>
      ⟨ev_loc (fun t ht => he t (by simp [Kd.reads, ht])), ev_loc (fun t ht => he t (by simp [Kd.reads, ht]))⟩
    split at h
    · rename_i id kt' es kv e1 e2
      exact ⟨_, s.S, h.2, fun _ => rfl, fun env' he => ⟨fun K' hk => by simp only [Kd.go, ec env' _ he, e1, e2]; exact ⟨h.1, hk⟩, by simp [Kd.pureS]⟩⟩
    · exact h.elim
  | mapSet kt m k v =>
    simp only [Kd.go] at h
    have ec : ∀ env' S', (∀ t ∈ (Kd.mapSet kt m k v).reads, env' t = s.env t) → (⟨env', S'⟩ : AS).ev m = s.ev m ∧ (⟨env', S'⟩ : AS).ev k = s.ev k ∧ (⟨env', S'⟩ : AS).ev v = s.ev v := fun env' S' he =>
      ⟨ev_loc (fun t ht => he t (by simp [Kd.reads, ht])), ev_loc (fun t ht => he t (by simp [Kd.reads, ht])), ev_loc (fun t ht => he t (by simp [Kd.reads, ht]))⟩
    split at h
    · rename_i id kt' es kv v' e1 e2 e3
      exact ⟨_, _, h.2, by simp [Kd.keepS], fun env' he => ⟨fun K' hk => by simp only [Kd.go, ec env' _ he, e1, e2, e3]; exact ⟨h.1, hk⟩, by simp [Kd.pureS]⟩⟩
    · exact h.elim
  | mapEntry kt z m k =>
    simp only [Kd.go] at h
    have ec : ∀ env' S', (∀ t ∈ (Kd.mapEntry kt z m k).reads, env' t = s.env t) → (⟨env', S'⟩ : AS).ev m = s.ev m ∧ (⟨env', S'⟩ : AS).ev k = s.ev k := fun env' S' he =>
      ⟨ev_loc (fun t ht => he t (by simp [Kd.reads, ht])), ev_loc (fun t ht => he t (by simp [Kd.reads, ht]))⟩
    split at h
    · rename_i id kt' es kv e1 e2
      exact ⟨_, _, h.2.2, by simp [Kd.keepS], fun env' he => ⟨fun K' hk => by simp only [Kd.go, ec env' _ he, e1, e2]; exact ⟨h.1, h.2.1, hk⟩, by simp [Kd.pureS]⟩⟩
    · exact h.elim
  | entrySet m i v =>
    simp only [Kd.go] at h
    have ec : ∀ env' S', (∀ t ∈ (Kd.entrySet m i v).reads, env' t = s.env t) → (⟨env', S'⟩ : AS).ev m = s.ev m ∧ (⟨env', S'⟩ : AS).ev i = s.ev i ∧ (⟨env', S'⟩ : AS).ev v = s.ev v := fun env' S' he =>
      ⟨ev_loc (fun t ht => he t (by simp [Kd.reads, ht])), ev_loc (fun t ht => he t (by simp [Kd.reads, ht])), ev_loc (fun t ht => he t (by simp [Kd.reads, ht]))⟩
    split at h
    · rename_i id kt es kk n v' e1 e2 e3
      exact ⟨_, _, h.2, by simp [Kd.keepS], fun env' he => ⟨fun K' hk => by simp only [Kd.go, ec env' _ he, e1, e2, e3]; exact ⟨h.1, hk⟩, by simp [Kd.pureS]⟩⟩
    · exact h.elim
  | rangeM m =>
    simp only [Kd.go] at h
    split at h
    · rename_i id kt es e1
      exact ⟨_, _, h.2, by simp [Kd.keepS], fun env' he => ⟨fun K' hk => by simp only [Kd.go, ev_loc he, e1]; exact ⟨h.1, hk⟩, by simp [Kd.pureS]⟩⟩
    · exact h.elim
  | next x => cases hdet
  | memoGet ok z m k => cases hdet
  | buildArr caps =>
    simp only [Kd.go] at h
    split at h
    · rename_i cs e1
      exact ⟨_, s.S, h, fun _ => rfl, fun env' he => ⟨fun K' hk => by simp only [Kd.go, caps_loc he, e1]; exact hk, fun _ S' K' hk => by simp only [Kd.go, caps_loc he, e1]; exact hk⟩⟩
    · exact h.elim
  | makeMemo => exact ⟨_, _, h.2, by simp [Kd.keepS], fun env' he => ⟨fun K' hk => ⟨h.1, hk⟩, by simp [Kd.pureS]⟩⟩
  | memoSet m k v =>
    simp only [Kd.go] at h
    have ec : ∀ env' S', (∀ t ∈ (Kd.memoSet m k v).reads, env' t = s.env t) → (⟨env', S'⟩ : AS).ev m = s.ev m ∧ (⟨env', S'⟩ : AS).ev k = s.ev k ∧ (⟨env', S'⟩ : AS).ev v = s.ev v := fun env' S' he =>
      ⟨ev_loc (fun t ht => he t (by simp [Kd.reads, ht])), ev_loc (fun t ht => he t (by simp [Kd.reads, ht])), ev_loc (fun t ht => he t (by simp [Kd.reads, ht]))⟩
    split at h
    · rename_i id f cs ds x e1 e2 e3
      exact ⟨_, s.S, h.2.2, fun _ => rfl, fun env' he => ⟨fun K' hk => by simp only [Kd.go, ec env' _ he, e1, e2, e3]; exact ⟨h.1, h.2.1, hk⟩, by simp [Kd.pureS]⟩⟩
    · exact h.elim
  | lenM m =>
    simp only [Kd.go] at h
    split at h
    · rename_i id kt es e1
      exact ⟨_, s.S, h.2, fun _ => rfl, fun env' he => ⟨fun K' hk => by simp only [Kd.go, ev_loc he, e1]; exact ⟨h.1, hk⟩, by simp [Kd.pureS]⟩⟩
    · exact h.elim
  | entry x =>
    simp only [Kd.go] at h
    split at h
    · rename_i id m seen kt es e1
      split at h
      · rename_i j e2
        split at h
        · rename_i y e3
          split at h
          · rename_i c e4
            exact ⟨_, s.S, h, fun _ => rfl, fun env' he => ⟨fun K' hk => by simp only [Kd.go, ev_loc he, e1, e2, e3, e4]; exact hk, by simp [Kd.pureS]⟩⟩
          · exact h.elim
        · exact h.elim
      · exact h.elim
    · exact h.elim
  | conv k x =>
    simp only [Kd.go] at h
    split at h
    · rename_i k' n e1
      exact ⟨_, s.S, h.2, fun _ => rfl, fun env' he => ⟨fun K' hk => by simp only [Kd.go, ev_loc he, e1]; exact ⟨h.1, hk⟩, fun _ S' K' hk => by simp only [Kd.go, ev_loc he, e1]; exact ⟨h.1, hk⟩⟩⟩
    · exact h.elim
  | nilCheck x =>
    simp only [Kd.go] at h
    split at h
    · rename_i cs e1
      exact ⟨_, s.S, h, fun _ => rfl, fun env' he => ⟨fun K' hk => by simp only [Kd.go, ev_loc he, e1]; exact hk, by simp [Kd.pureS]⟩⟩
    · rename_i id m k o e1
      split at h
      · rename_i b e2
        exact ⟨_, s.S, h.2, fun _ => rfl, fun env' he => ⟨fun K' hk => by simp only [Kd.go, ev_loc he, e1, e2]; exact ⟨h.1, hk⟩, by simp [Kd.pureS]⟩⟩
      · exact h.elim
    · exact h.elim
  | mm mx x y =>
    simp only [Kd.go] at h
    have ec : ∀ env' S', (∀ t ∈ (Kd.mm mx x y).reads, env' t = s.env t) → (⟨env', S'⟩ : AS).ev x = s.ev x ∧ (⟨env', S'⟩ : AS).ev y = s.ev y := fun env' S' he =>
      ⟨ev_loc (fun t ht => he t (by simp [Kd.reads, ht])), ev_loc (fun t ht => he t (by simp [Kd.reads, ht]))⟩
    split at h
    · rename_i k m k' n e1 e2
      exact ⟨_, s.S, h.2, fun _ => rfl, fun env' he => ⟨fun K' hk => by simp only [Kd.go, ec env' _ he, e1, e2]; exact ⟨h.1, hk⟩, fun _ S' K' hk => by simp only [Kd.go, ec env' _ he, e1, e2]; exact ⟨h.1, hk⟩⟩⟩
    · exact h.elim
  | makeSlice e w bytes z x y =>
    simp only [Kd.go] at h
    have ec : ∀ env' S', (∀ t ∈ (Kd.makeSlice e w bytes z x y).reads, env' t = s.env t) → (⟨env', S'⟩ : AS).ev x = s.ev x ∧ (⟨env', S'⟩ : AS).ev y = s.ev y := fun env' S' he =>
      ⟨ev_loc (fun t ht => he t (by simp [Kd.reads, ht])), ev_loc (fun t ht => he t (by simp [Kd.reads, ht]))⟩
    split at h
    · rename_i k m k' n e1 e2
      exact ⟨_, _, h.2.2.2.2.2, by simp [Kd.keepS], fun env' he => ⟨fun K' hk => by simp only [Kd.go, ec env' _ he, e1, e2]; exact ⟨h.1, h.2.1, h.2.2.1, h.2.2.2.1, h.2.2.2.2.1, hk⟩, by simp [Kd.pureS]⟩⟩
    · exact h.elim
  | makeFunc g caps =>
    simp only [Kd.go] at h
    split at h
    · rename_i cs e1
      exact ⟨_, s.S, h, fun _ => rfl, fun env' he => ⟨fun K' hk => by simp only [Kd.go, caps_loc he, e1]; exact hk, fun _ S' K' hk => by simp only [Kd.go, caps_loc he, e1]; exact hk⟩⟩
    · exact h.elim
  | callS f xs =>
    simp only [Kd.go] at h
    obtain ⟨r, S', hr, hK⟩ := h
    exact ⟨_, _, hK, by simp [Kd.keepS], fun env' he => ⟨fun K' hk => by simp only [Kd.go, evs_loc he]; exact ⟨r, S', hr, hk⟩, by simp [Kd.pureS]⟩⟩
  | callV f xs =>
    simp only [Kd.go] at h
    split at h
    · rename_i g caps e1
      obtain ⟨hp, r, S', hr, hK⟩ := h
      have e2 : ∀ env' S', (∀ t ∈ (Kd.callV f xs).reads, env' t = s.env t) → (⟨env', S'⟩ : AS).ev f = s.ev f ∧ (⟨env', S'⟩ : AS).evs xs = s.evs xs := fun env' S' he =>
        ⟨ev_loc (fun t ht => he t (by simp [Kd.reads, ht])), evs_loc (fun t ht => he t (by simp [Kd.reads, ht]))⟩
      exact ⟨_, _, hK, by simp [Kd.keepS], fun env' he => ⟨fun K' hk => by simp only [Kd.go, e2 env' _ he, e1]; exact ⟨hp, r, S', hr, hk⟩, by simp [Kd.pureS]⟩⟩
    · exact h.elim
def SubS (S S' : AStore) : Prop := ∀ id b, S id = some b → S' id = some b
theorem stC_ext {S S' : AStore} (h : SubS S S') {c : AC} {x : SV} (hx : stC S c = some x) : stC S' c = some x := by
  cases c with
  | row id n =>
    simp only [stC] at hx ⊢
    cases hb : S id with
    | none => rw [hb] at hx; cases hx
    | some b => rw [hb] at hx; rw [h _ _ hb]; exact hx
  | fn f caps => cases caps <;> exact hx
  | _ => exact hx
theorem stCs_ext {S S' : AStore} (h : SubS S S') : ∀ {cs : List AC} {xs : List SV}, stCs S cs = some xs → stCs S' cs = some xs
  | [], xs, hx => hx
  | c :: cs, xs, hx => by
    simp only [stCs] at hx ⊢
    split at hx
    · rename_i x xs' h1 h2
      rw [stC_ext h h1, stCs_ext h h2]
      exact hx
    · cases hx
theorem outC_ext {S S' : AStore} (h : SubS S S') {c : AC} {x : AC} (hx : outC S c = some x) : outC S' c = some x := by
  have key : ∀ c : AC, (stC S c).map AC.st = some x → (stC S' c).map AC.st = some x := fun c hx => by
    rw [Option.map_eq_some_iff] at hx ⊢
    obtain ⟨a, h1, h2⟩ := hx
    exact ⟨a, stC_ext h h1, h2⟩
  cases c with
  | fn f caps =>
    cases caps with
    | nil => exact hx
    | cons y ys => simp only [outC] at hx ⊢; exact key _ hx
  | eptr cs => exact hx
  | ubool => exact hx
  | _ => simp only [outC] at hx ⊢; exact key _ hx
theorem outCs_ext {S S' : AStore} (h : SubS S S') : ∀ {cs : List AC} {xs : List AC}, outCs S cs = some xs → outCs S' cs = some xs
  | [], xs, hx => hx
  | c :: cs, xs, hx => by
    simp only [outCs] at hx ⊢
    split at hx
    · rename_i x xs' h1 h2
      rw [outC_ext h h1, outCs_ext h h2]
      exact hx
    · cases hx
mutual
theorem outV_ext {S S' : AStore} (h : SubS S S') : ∀ {v x : AV}, outV S v = some x → outV S' v = some x
  | .one c, x, hx => by
    rw [outV, Option.map_eq_some_iff] at hx ⊢
    obtain ⟨a, h1, h2⟩ := hx
    exact ⟨a, outC_ext h h1, h2⟩
  | .agg cs, x, hx => by
    rw [outV, Option.map_eq_some_iff] at hx ⊢
    obtain ⟨a, h1, h2⟩ := hx
    exact ⟨a, outCs_ext h h1, h2⟩
  | .tup vs, x, hx => by
    rw [outV, Option.map_eq_some_iff] at hx ⊢
    obtain ⟨a, h1, h2⟩ := hx
    exact ⟨a, outVs_ext h h1, h2⟩
  | .any, x, hx => hx
theorem outVs_ext {S S' : AStore} (h : SubS S S') : ∀ {vs xs : List AV}, outVs S vs = some xs → outVs S' vs = some xs
  | [], xs, hx => hx
  | v :: vs, xs, hx => by
    rw [outVs] at hx ⊢
    split at hx
    · rename_i x xs' h1 h2
      rw [outV_ext h h1, outVs_ext h h2]
      exact hx
    · cases hx
end
theorem elems_ext {S' : AStore} (h : SubS s.S S') {w : Nat} (env' : Nat → AV) : ∀ {xs : List Opd} {es : List (List SV)}, (∀ t ∈ allReads xs, env' t = s.env t) → elems s w xs = some es → elems (⟨env', S'⟩ : AS) w xs = some es
  | [], es, _, hx => hx
  | x :: xs, es, he, hx => by
    simp only [elems] at hx ⊢
    rw [ev_loc (fun t ht => he t (by simp [allReads, ht]))]
    split at hx
    · rename_i c e1
      split at hx
      · rename_i c' es' e2 e3
        rw [stCs_ext h e2, elems_ext h env' (fun t ht => he t (by simp [allReads, ht])) e3]
        exact hx
      · cases hx
    · cases hx
theorem mapOf_ext {S S' : AStore} (h : SubS S S') {v : AV} {x : Nat × Option IntKind × List (KV × AV)} (hx : mapOf S v = some x) : mapOf S' v = some x := by
  unfold mapOf at hx ⊢
  split at hx
  · rename_i id
    split at hx
    · rename_i kt es e1
      rw [h _ _ e1]
      exact hx
    · cases hx
  · cases hx
theorem iterOf_ext {S S' : AStore} (h : SubS S S') {v : AV} {x : (Nat × Nat × List Nat) × Option IntKind × List (KV × AV)} (hx : iterOf S v = some x) : iterOf S' v = some x := by
  unfold iterOf at hx ⊢
  split at hx
  · rename_i id
    split at hx
    · rename_i m n seen e1
      split at hx
      · rename_i kt es e2
        simp only [h _ _ e1, h _ _ e2]
        exact hx
      · cases hx
    · cases hx
  · cases hx
theorem Kd.det_of_keeps {kd : Kd} (h : kd.keepS = true) : kd.det = true := by cases kd <;> first | rfl | cases h
theorem memoOf_ext {S S' : AStore} (h : SubS S S') {v : AV} {x : Nat × (List SV → List SV → SV → Prop)} (hx : memoOf S v = some x) : memoOf S' v = some x := by
  unfold memoOf at hx ⊢
  split at hx
  · rename_i id
    split at hx
    · rename_i f e1
      rw [h _ _ e1]
      exact hx
    · cases hx
  · cases hx
theorem go_ext {kd : Kd} (hk : kd.keepS = true) (h : kd.go P d s K) : ∃ v, K v s ∧ ∀ S', SubS s.S S' → ∀ env' : Nat → AV, (∀ t ∈ kd.reads, env' t = s.env t) → ∀ K' : AV → AS → Prop, K' v ⟨env', S'⟩ → kd.go P d ⟨env', S'⟩ K' := by
  by_cases hp : kd.pureS = true
  · obtain ⟨v, S1, h1, h2, h3⟩ := go_loc (Kd.det_of_keeps hk) h
    have := h2 hk
    subst this
    exact ⟨v, h1, fun S' _ env' he K' hK => (h3 env' he).2 hp S' K' hK⟩
  cases kd
  case buildSlice mu e w xs =>
    cases mu with
    | true => simp [Kd.keepS] at hk
    | false =>
      simp only [Kd.go] at h
      split at h
      · rename_i es e1
        simp only [Bool.false_eq_true, if_false] at h
        exact ⟨_, h, fun S' hs env' he K' hK => by simp only [Kd.go, elems_ext hs env' he e1, Bool.false_eq_true, if_false]; exact hK⟩
      · exact h.elim
  case load g n x =>
    simp only [Kd.go] at h
    split at h
    · rename_i cs e1
      exact ⟨_, h.2, fun S' hs env' he K' hK => by simp only [Kd.go, ev_loc he, e1]; exact ⟨h.1, hK⟩⟩
    · rename_i id m k off e1
      split at h
      · rename_i cs e2
        refine ⟨_, h.2, fun S' hs env' he K' hK => ?_⟩
        have e3 : blkCells S' id m k = some cs := by
          unfold blkCells at e2 ⊢
          cases hb : s.S id with
          | none => rw [hb] at e2; cases e2
          | some b => rw [hb] at e2; rw [hs _ _ hb]; exact e2
        simp only [Kd.go, ev_loc he, e1, e3]
        exact ⟨h.1, hK⟩
      · exact h.elim
    · exact h.elim
  case fieldAddr off x =>
    simp only [Kd.go] at h
    split at h
    · rename_i cs e1
      exact ⟨_, h, fun S' hs env' he K' hK => by simp only [Kd.go, ev_loc he, e1]; exact hK⟩
    · rename_i id m k o e1
      split at h
      · rename_i b e2
        exact ⟨_, h.2, fun S' hs env' he K' hK => by simp only [Kd.go, ev_loc he, e1, hs _ _ e2]; exact ⟨h.1, hK⟩⟩
      · exact h.elim
    · exact h.elim
  case indexArr n w x i =>
    simp only [Kd.go] at h
    have ec : ∀ env' S', (∀ t ∈ (Kd.indexArr n w x i).reads, env' t = s.env t) → (⟨env', S'⟩ : AS).ev x = s.ev x ∧ (⟨env', S'⟩ : AS).ev i = s.ev i := fun env' S' he =>
      ⟨ev_loc (fun t ht => he t (by simp [Kd.reads, ht])), ev_loc (fun t ht => he t (by simp [Kd.reads, ht]))⟩
    split at h
    · rename_i cs kk k e1 e2
      exact ⟨_, h.2, fun S' hs env' he K' hK => by simp only [Kd.go, ec env' _ he, e1, e2]; exact ⟨h.1, hK⟩⟩
    · rename_i id m b o kk k e1 e2
      split at h
      · rename_i bl e3
        exact ⟨_, h.2.2, fun S' hs env' he K' hK => by simp only [Kd.go, ec env' _ he, e1, e2, hs _ _ e3]; exact ⟨h.1, h.2.1, hK⟩⟩
      · exact h.elim
    · exact h.elim
  case indexAddr w x i =>
    simp only [Kd.go] at h
    have ec : ∀ env' S', (∀ t ∈ (Kd.indexAddr w x i).reads, env' t = s.env t) → (⟨env', S'⟩ : AS).ev x = s.ev x ∧ (⟨env', S'⟩ : AS).ev i = s.ev i := fun env' S' he =>
      ⟨ev_loc (fun t ht => he t (by simp [Kd.reads, ht])), ev_loc (fun t ht => he t (by simp [Kd.reads, ht]))⟩
    split at h
    · rename_i c kk n e1 e2
      split at h
      · rename_i xs
        unfold idxK at h
        obtain ⟨h0, h⟩ := h
        split at h
        · rename_i x1 hx1
          exact ⟨_, h.2, fun S' hs env' he K' hK => by simp only [Kd.go, ec env' _ he, e1, e2, idxK, hx1]; exact ⟨h0, h.1, hK⟩⟩
        · exact h.elim
      · rename_i xs
        unfold idxK at h
        obtain ⟨h0, h⟩ := h
        split at h
        · rename_i x1 hx1
          exact ⟨_, h.2, fun S' hs env' he K' hK => by simp only [Kd.go, ec env' _ he, e1, e2, idxK, hx1]; exact ⟨h0, h.1, hK⟩⟩
        · exact h.elim
      · rename_i id m
        split at h
        · rename_i e' w' xs hS
          obtain ⟨hm, hw, h⟩ := h
          unfold idxK at h
          obtain ⟨h0, h⟩ := h
          split at h
          · rename_i x1 hx1
            exact ⟨_, h, fun S' hs env' he K' hK => by simp only [Kd.go, ec env' _ he, e1, e2, hs _ _ hS, idxK, hx1]; exact ⟨hm, hw, h0, hK⟩⟩
          · exact h.elim
        · rename_i e' w' xs hS
          exact ⟨_, h.2.2.2.2, fun S' hs env' he K' hK => by simp only [Kd.go, ec env' _ he, e1, e2, hs _ _ hS]; exact ⟨h.1, h.2.1, h.2.2.1, h.2.2.2.1, hK⟩⟩
        · exact h.elim
      · exact h.elim
    · exact h.elim
  case sliceL w x lo hi =>
    simp only [Kd.go] at h
    have ec : ∀ env' S', (∀ t ∈ (Kd.sliceL w x lo hi).reads, env' t = s.env t) → (⟨env', S'⟩ : AS).ev x = s.ev x ∧ (∀ n, optI (⟨env', S'⟩ : AS) n lo = optI s n lo) ∧ (∀ n, optI (⟨env', S'⟩ : AS) n hi = optI s n hi) := fun env' S' he =>
      ⟨ev_loc (fun t ht => he t (by simp [Kd.reads, ht])), fun n => optI_loc (fun t ht => he t (by simp [Kd.reads, ht])), fun n => optI_loc (fun t ht => he t (by simp [Kd.reads, ht]))⟩
    split at h
    · rename_i c e1
      split at h
      · rename_i xs e0
        split at h
        · rename_i l hh e2 e3
          exact ⟨_, h.2.2, fun S' hs env' he K' hK => by simp only [Kd.go, ec env' _ he, e1, stC_ext hs e0, e2, e3]; exact ⟨h.1, h.2.1, hK⟩⟩
        · exact h.elim
      · exact h.elim
    · exact h.elim
  case len str x =>
    simp only [Kd.go] at h
    split at h
    · rename_i c e1
      split at h
      · rename_i n e2
        refine ⟨_, h, fun S' hs env' he K' hK => ?_⟩
        have e3 : lenOfA S' str c = some n := by
          unfold lenOfA at e2 ⊢
          split at e2 <;> try exact e2
          all_goals
            first | (rename_i id k m; cases hb : s.S id with
              | none => rw [hb] at e2; cases e2
              | some b => rw [hb] at e2; simp only [hs _ _ hb]; exact e2) | (rename_i id m; cases hb : s.S id with
              | none => rw [hb] at e2; cases e2
              | some b => rw [hb] at e2; simp only [hs _ _ hb]; exact e2)
        simp only [Kd.go, ev_loc he, e1, e3]
        exact hK
      · exact h.elim
    · exact h.elim
  case restP w x lo =>
    simp only [Kd.go] at h
    have ec : ∀ env' S', (∀ t ∈ (Kd.restP w x lo).reads, env' t = s.env t) → (⟨env', S'⟩ : AS).ev x = s.ev x ∧ (⟨env', S'⟩ : AS).ev lo = s.ev lo := fun env' S' he =>
      ⟨ev_loc (fun t ht => he t (by simp [Kd.reads, ht])), ev_loc (fun t ht => he t (by simp [Kd.reads, ht]))⟩
    split at h
    · rename_i id m kk oo e1 e2
      split at h
      · rename_i e' w' xs e3
        exact ⟨_, h.2.2, fun S' hs env' he K' hK => by simp only [Kd.go, ec env' _ he, e1, e2, hs _ _ e3]; exact ⟨h.1, h.2.1, hK⟩⟩
      · exact h.elim
    · exact h.elim
  case cutP w x hi =>
    simp only [Kd.go] at h
    have ec : ∀ env' S', (∀ t ∈ (Kd.cutP w x hi).reads, env' t = s.env t) → (⟨env', S'⟩ : AS).ev x = s.ev x ∧ (⟨env', S'⟩ : AS).ev hi = s.ev hi := fun env' S' he =>
      ⟨ev_loc (fun t ht => he t (by simp [Kd.reads, ht])), ev_loc (fun t ht => he t (by simp [Kd.reads, ht]))⟩
    split at h
    · rename_i id k m kk hh e1 e2
      split at h
      · rename_i e' w' xs e3
        exact ⟨_, h.2.2, fun S' hs env' he K' hK => by simp only [Kd.go, ec env' _ he, e1, e2, hs _ _ e3]; exact ⟨h.1, h.2.1, hK⟩⟩
      · exact h.elim
    · exact h.elim
  case indexP w x i =>
    simp only [Kd.go] at h
    have ec : ∀ env' S', (∀ t ∈ (Kd.indexP w x i).reads, env' t = s.env t) → (⟨env', S'⟩ : AS).ev x = s.ev x ∧ (⟨env', S'⟩ : AS).ev i = s.ev i := fun env' S' he =>
      ⟨ev_loc (fun t ht => he t (by simp [Kd.reads, ht])), ev_loc (fun t ht => he t (by simp [Kd.reads, ht]))⟩
    split at h
    · rename_i id k m kk hh e1 e2
      split at h
      · rename_i e' w' xs e3
        exact ⟨_, h.2.2, fun S' hs env' he K' hK => by simp only [Kd.go, ec env' _ he, e1, e2, hs _ _ e3]; exact ⟨h.1, h.2.1, hK⟩⟩
      · exact h.elim
    · exact h.elim
  case lookup kt ok z m k =>
    simp only [Kd.go] at h
    have ec : ∀ env' S', (∀ t ∈ (Kd.lookup kt ok z m k).reads, env' t = s.env t) → (⟨env', S'⟩ : AS).ev m = s.ev m ∧ (⟨env', S'⟩ : AS).ev k = s.ev k := fun env' S' he =>
      ⟨ev_loc (fun t ht => he t (by simp [Kd.reads, ht])), ev_loc (fun t ht => he t (by simp [Kd.reads, ht]))⟩
    split at h
    · rename_i id kt' es kv e1 e2
      exact ⟨_, h.2, fun S' hs env' he K' hK => by simp only [Kd.go, ec env' _ he, mapOf_ext hs e1, e2]; exact ⟨h.1, hK⟩⟩
    · exact h.elim
  case memoSet m k v =>
    simp only [Kd.go] at h
    have ec : ∀ env' S', (∀ t ∈ (Kd.memoSet m k v).reads, env' t = s.env t) → (⟨env', S'⟩ : AS).ev m = s.ev m ∧ (⟨env', S'⟩ : AS).ev k = s.ev k ∧ (⟨env', S'⟩ : AS).ev v = s.ev v := fun env' S' he =>
      ⟨ev_loc (fun t ht => he t (by simp [Kd.reads, ht])), ev_loc (fun t ht => he t (by simp [Kd.reads, ht])), ev_loc (fun t ht => he t (by simp [Kd.reads, ht]))⟩
    split at h
    · rename_i id f cs ds x e1 e2 e3
      exact ⟨_, h.2.2, fun S' hs env' he K' hK => by simp only [Kd.go, ec env' _ he, memoOf_ext hs e1, e2, e3]; exact ⟨h.1, h.2.1, hK⟩⟩
    · exact h.elim
  case lenM m =>
    simp only [Kd.go] at h
    split at h
    · rename_i id kt es e1
      exact ⟨_, h.2, fun S' hs env' he K' hK => by simp only [Kd.go, ev_loc he, mapOf_ext hs e1]; exact ⟨h.1, hK⟩⟩
    · exact h.elim
  case entry x =>
    simp only [Kd.go] at h
    split at h
    · rename_i id m seen kt es e1
      split at h
      · rename_i j e2
        split at h
        · rename_i y e3
          split at h
          · rename_i c e4
            exact ⟨_, h, fun S' hs env' he K' hK => by simp only [Kd.go, ev_loc he, iterOf_ext hs e1, e2, e3, e4]; exact hK⟩
          · exact h.elim
        · exact h.elim
      · exact h.elim
    · exact h.elim
  case call f xs =>
    simp only [Kd.go] at h
    split at h
    · rename_i vs e1
      obtain ⟨r, hr, hK⟩ := h
      exact ⟨_, hK, fun S' hs env' he K' hK' => by simp only [Kd.go, evs_loc he, outVs_ext hs e1]; exact ⟨r, hr, hK'⟩⟩
    · exact h.elim
  case callR f xs =>
    simp only [Kd.go] at h
    obtain ⟨r, rows, h0, hr, hK⟩ := h
    exact ⟨_, hK, fun S' hs env' he K' hK' => by simp only [Kd.go, evs_loc he]; exact ⟨r, rows, fun q hq => hs _ _ (h0 q hq), hr, hK'⟩⟩
  case nilCheck x =>
    simp only [Kd.go] at h
    split at h
    · rename_i cs e1
      exact ⟨_, h, fun S' hs env' he K' hK => by simp only [Kd.go, ev_loc he, e1]; exact hK⟩
    · rename_i id m k o e1
      split at h
      · rename_i b e2
        exact ⟨_, h.2, fun S' hs env' he K' hK => by simp only [Kd.go, ev_loc he, e1, hs _ _ e2]; exact ⟨h.1, hK⟩⟩
      · exact h.elim
    · exact h.elim
  all_goals first | exact absurd rfl hp | cases hk
def Kd.freshS : Kd → Bool
  | .alloc _ _ | .box _ _ | .buildSlice true _ _ _ | .makeSlice _ _ _ _ _ _ | .callN _ _ | .makeMap _ | .rangeM _ | .makeMemo => true
  | _ => false
theorem subS_set {S : AStore} {d : Nat} {b : ABlk} (h : S d = none) : SubS S (updE S d (some b)) := fun id b' hb => by
  rw [updE_ne _ (fun e => by subst e; rw [h] at hb; cases hb), hb]
theorem go_fresh {kd : Kd} (hf : kd.freshS = true) (h : kd.go P d s K) : kd.go P d s fun v s' => K v s' ∧ SubS s.S s'.S := by
  cases kd
  case alloc e z => exact ⟨h.1, h.2, subS_set h.1⟩
  case box e x =>
    simp only [Kd.go] at h ⊢
    split at h
    · rename_i cs e1
      exact ⟨h.1, h.2, subS_set h.1⟩
    · exact h.elim
  case buildSlice mu e w xs =>
    cases mu with
    | false => cases hf
    | true =>
      simp only [Kd.go, if_true] at h ⊢
      split at h
      · rename_i es e1
        exact ⟨h.1, h.2, subS_set h.1⟩
      · exact h.elim
  case makeSlice e w bytes z x y =>
    simp only [Kd.go] at h ⊢
    split at h
    · exact ⟨h.1, h.2.1, h.2.2.1, h.2.2.2.1, h.2.2.2.2.1, h.2.2.2.2.2, subS_set h.2.2.2.2.1⟩
    · exact h.elim
  case callN f xs =>
    simp only [Kd.go] at h ⊢
    split at h
    · rename_i vs e1
      obtain ⟨mu, e, w, ys, hr, hd, hK⟩ := h
      exact ⟨mu, e, w, ys, hr, hd, hK, subS_set hd⟩
    · exact h.elim
  case makeMap kt => exact ⟨h.1, h.2, subS_set h.1⟩
  case makeMemo => exact ⟨h.1, h.2, subS_set h.1⟩
  case rangeM m =>
    simp only [Kd.go] at h ⊢
    split at h
    · exact ⟨h.1, h.2, subS_set h.1⟩
    · exact h.elim
  all_goals cases hf
end
end Go.Proofs.YtehnjhkndbcmgaaGreatDoor
