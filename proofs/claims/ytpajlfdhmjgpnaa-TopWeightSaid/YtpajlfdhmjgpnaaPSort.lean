/-
  Bindings sorted by their names, in plain Lean. No program in sight.
  Conditions: none.
-/
import Derived.Test.YtpajlfdhmjgpnaaPSubst
namespace Go.Proofs.Ytpajlfdhmjgpnaa
open Go Go.RowKit
set_option linter.unusedVariables false

/-- A binding laid into a sorted row: behind all whose names are no greater. -/
def insB (b : Bd) : List Bd → List Bd
  | [] => [b]
  | c :: l => if sLt b.1 c.1 = true then b :: c :: l else c :: insB b l
def sortB (l : List Bd) : List Bd := l.foldl (fun acc b => insB b acc) []
/-- No two names alike. -/
def Named (l : List Bd) : Prop := (l.map (·.1)).Nodup
theorem insB_perm (b : Bd) : ∀ l : List Bd, (insB b l).Perm (b :: l)
  | [] => List.Perm.refl _
  | c :: l => by
    unfold insB
    split
    · exact List.Perm.refl _
    · exact ((insB_perm b l).cons c).trans (List.Perm.swap b c l)
theorem insB_ordered {b : Bd} : ∀ {l : List Bd}, Ordered l → (∀ c ∈ l, c.1 ≠ b.1) → Ordered (insB b l)
  | [], _, _ => List.pairwise_cons.2 ⟨by simp, List.Pairwise.nil⟩
  | c :: l, ho, hn => by
    obtain ⟨o1, o2⟩ := List.pairwise_cons.1 ho
    unfold insB
    split
    · rename_i h
      exact List.pairwise_cons.2 ⟨fun x hx => by
        rcases List.mem_cons.1 hx with rfl | hx
        · exact h
        · exact sLt_trans h (o1 x hx), ho⟩
    · rename_i h
      refine List.pairwise_cons.2 ⟨fun x hx => ?_, insB_ordered o2 fun x hx => hn x (by simp [hx])⟩
      rcases List.mem_cons.1 ((insB_perm b l).mem_iff.1 hx) with rfl | hx
      · rcases sLt_total c.1 x.1 with k | k | k
        · exact k
        · exact absurd k (hn c (by simp))
        · exact absurd k h
      · exact o1 x hx
theorem sortB_snoc (l : List Bd) (b : Bd) : sortB (l ++ [b]) = insB b (sortB l) := by unfold sortB; rw [List.foldl_append]; rfl
theorem foldl_ins_perm : ∀ (l acc : List Bd), (l.foldl (fun acc b => insB b acc) acc).Perm (l ++ acc)
  | [], acc => List.Perm.refl _
  | b :: l, acc => by
    rw [List.foldl_cons]
    refine (foldl_ins_perm l _).trans ?_
    refine ((insB_perm b acc).append_left l).trans ?_
    exact List.perm_middle
theorem sortB_perm (l : List Bd) : (sortB l).Perm l := by
  have := foldl_ins_perm l []
  rw [List.append_nil] at this
  exact this
theorem foldl_ins_ordered : ∀ (l acc : List Bd), Ordered acc → Named (acc ++ l) → Ordered (l.foldl (fun acc b => insB b acc) acc)
  | [], acc, ho, _ => ho
  | b :: l, acc, ho, hn => by
    rw [List.foldl_cons]
    have hp : (acc ++ b :: l).Perm (insB b acc ++ l) := (List.perm_middle).trans (by rw [← List.cons_append]; exact ((insB_perm b acc).symm.append_right l))
    refine foldl_ins_ordered l _ (insB_ordered ho fun c hc e => ?_) ((hp.map _).nodup_iff.1 hn)
    unfold Named at hn
    rw [List.map_append, List.nodup_append] at hn
    exact hn.2.2 _ (List.mem_map.2 ⟨c, hc, rfl⟩) _ (by simp) e
theorem sortB_ordered {l : List Bd} (hn : Named l) : Ordered (sortB l) := foldl_ins_ordered l [] List.Pairwise.nil (by simpa using hn)
theorem ordered_named {l : List Bd} (ho : Ordered l) : Named l := by
  unfold Named
  rw [List.nodup_iff_pairwise_ne, List.pairwise_map]
  exact ho.imp fun {a b} h e => by rw [e, sLt_irrefl] at h; cases h
theorem ordered_unique : ∀ {l m : List Bd}, Ordered l → Ordered m → l.Perm m → l = m
  | [], m, _, _, h => (List.nil_perm.1 h).symm
  | a :: l, [], _, _, h => absurd h.length_eq (by simp)
  | a :: l, c :: m, hl, hm, h => by
    obtain ⟨l1, l2⟩ := List.pairwise_cons.1 hl
    obtain ⟨m1, m2⟩ := List.pairwise_cons.1 hm
    have e : a = c := by
      rcases List.mem_cons.1 (h.mem_iff.1 (List.mem_cons_self)) with e | e
      · exact e
      · rcases List.mem_cons.1 (h.mem_iff.2 (List.mem_cons_self)) with e2 | e2
        · exact e2.symm
        · have := sLt_trans (m1 a e) (l1 c e2)
          rw [sLt_irrefl] at this
          cases this
    subst e
    rw [ordered_unique l2 m2 (List.Perm.cons_inv h)]
theorem sortB_id {l : List Bd} (ho : Ordered l) : sortB l = l := ordered_unique (sortB_ordered (ordered_named ho)) ho (sortB_perm l)
theorem sortB_mem {l : List Bd} {b : Bd} : b ∈ sortB l ↔ b ∈ l := (sortB_perm l).mem_iff
theorem sortB_length (l : List Bd) : (sortB l).length = l.length := (sortB_perm l).length_eq
theorem named_perm {l m : List Bd} (h : l.Perm m) (hn : Named l) : Named m := ((h.map _).nodup_iff).1 hn
end Go.Proofs.Ytpajlfdhmjgpnaa
