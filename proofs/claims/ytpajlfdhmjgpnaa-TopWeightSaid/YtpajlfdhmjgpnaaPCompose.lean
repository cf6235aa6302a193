/-
  One list of bindings behind another, in plain Lean: doing one behind the other, whichever two come first. No program in sight.
  Conditions: none.
-/
import Derived.Test.YtpajlfdhmjgpnaaPThen
namespace Go.Proofs.Ytpajlfdhmjgpnaa
open Go Go.RowKit
set_option linter.unusedVariables false

/-! ### what stands for a name -/
theorem lookup_nil (y : ByteArray) : lookup [] y = none := rfl
theorem lookup_cons (b : Bd) (l : List Bd) (y : ByteArray) : lookup (b :: l) y = if b.1 = y then some b.2 else lookup l y := by
  unfold lookup
  by_cases h : b.1 = y
  · rw [List.find?_cons_of_pos (by simpa using h), if_pos h]; rfl
  · rw [List.find?_cons_of_neg (by simpa using h), if_neg h]
theorem lookup_iff {l : List Bd} (hn : Named l) {y : ByteArray} {x : Tm} : lookup l y = some x ↔ (y, x) ∈ l := by
  induction l with
  | nil => simp [lookup_nil]
  | cons b l ih =>
    obtain ⟨n1, n2⟩ := List.nodup_cons.1 (show ((b :: l).map fun c : Bd => c.1).Nodup from hn)
    rw [lookup_cons, List.mem_cons]
    by_cases h : b.1 = y
    · rw [if_pos h]
      constructor
      · intro e
        cases e
        exact .inl (by rw [← h])
      · rintro (e | e)
        · rw [← e]
        · exact absurd (List.mem_map.2 ⟨(y, x), e, rfl⟩) (by subst h; exact n1)
    · rw [if_neg h, ih n2]
      constructor
      · exact .inr
      · rintro (e | e)
        · exact absurd (by rw [← e]) h
        · exact e
theorem lookup_putIn (r : List Bd) (y : ByteArray) : ∀ l : List Bd, lookup (putIn r l) y = (lookup l y).map (Tm.on r)
  | [] => rfl
  | b :: l => by
    have e : putIn r (b :: l) = (b.1, b.2.on r) :: putIn r l := rfl
    rw [e, lookup_cons, lookup_cons, lookup_putIn r y l]
    by_cases h : b.1 = y
    · rw [if_pos h, if_pos h]; rfl
    · rw [if_neg h, if_neg h]
theorem lookup_append (y : ByteArray) (m : List Bd) : ∀ l : List Bd, lookup (l ++ m) y = match lookup l y with | some x => some x | none => lookup m y
  | [] => rfl
  | b :: l => by
    rw [List.cons_append, lookup_cons, lookup_cons, lookup_append y m l]
    by_cases h : b.1 = y
    · rw [if_pos h, if_pos h]
    · rw [if_neg h, if_neg h]
theorem lookup_newIn (s : List Bd) (y : ByteArray) (h : lookup s y = none) : ∀ r : List Bd, lookup (newIn s r) y = lookup r y
  | [] => rfl
  | b :: r => by
    unfold newIn
    by_cases e : b.1 = y
    · rw [List.filter_cons_of_pos (by rw [e, h]; rfl), lookup_cons, lookup_cons, if_pos e, if_pos e]
    · have ih := lookup_newIn s y h r
      unfold newIn at ih
      rw [List.filter_cons]
      split
      · rw [lookup_cons, lookup_cons, if_neg e, if_neg e, ih]
      · rw [lookup_cons, if_neg e, ih]
theorem lookup_joined (s r : List Bd) (y : ByteArray) : lookup (joined s r) y = match lookup s y with | some x => some (x.on r) | none => lookup r y := by
  unfold joined
  rw [lookup_append, lookup_putIn]
  cases h : lookup s y with
  | none => rw [Option.map_none]; exact lookup_newIn s y h r
  | some x => rfl

/-! ### doing one behind the other -/
def leafT (y : ByteArray) : Tm := .mk y []
theorem on_leafT (s : List Bd) (y : ByteArray) : (leafT y).on s = (lookup s y).getD (leafT y) := by
  cases h : lookup s y with
  | none => rw [Tm.on_knot (.inl h)]; rfl
  | some x => rw [Tm.on_leaf h rfl]; rfl
theorem leaf_of {t : Tm} (h : t.args = []) : t = leafT t.name := by
  cases t with
  | mk n xs =>
    simp only [Tm.args_mk] at h
    subst h
    rfl
/-- A list of bindings as it should be. -/
structure OkB (s : List Bd) : Prop where
  ord : Ordered s
  var : ∀ b ∈ s, isVar b.1 = true
  nam : ∀ b ∈ s, nameOk b.1 = true
  chk : ∀ b ∈ s, b.2.chk = 0
theorem chk_parts {t : Tm} (h : t.chk = 0) : chkOne t = 0 := by
  rw [Tm.chk_eq] at h
  by_cases h1 : chkOne t = 0
  · exact h1
  · rw [if_neg h1] at h; exact h
theorem chk_make {n : ByteArray} {xs ys : List Tm} (h : (Tm.mk n xs).chk = 0) (hl : ys.length = xs.length) (hy : ∀ y ∈ ys, y.chk = 0) : (Tm.mk n ys).chk = 0 := by
  have h1 : chkOne (Tm.mk n ys) = 0 := by
    have := chk_parts h
    unfold chkOne at this ⊢
    rw [Tm.name_mk, Tm.args_mk] at this ⊢
    rw [hl]; exact this
  rw [Tm.chk_eq, if_pos h1, Tm.args_mk]
  clear h h1 hl
  induction ys with
  | nil => rfl
  | cons x ys ih =>
    simp only [Tm.chkL]
    rw [if_pos (hy x (by simp))]
    exact ih fun y h => hy y (by simp [h])
theorem chk_sub {s : List Bd} (hs : ∀ b ∈ s, b.2.chk = 0) {t : Tm} (hc : t.chk = 0) : (t.on s).chk = 0 := by
  induction hN : SizeOf.sizeOf t using Nat.strongRecOn generalizing t with
  | _ N ih =>
  subst hN
  obtain ⟨c1, c2⟩ := Tm.chk_args hc
  by_cases hleaf : (∃ x, lookup s t.name = some x) ∧ t.args = []
  · obtain ⟨⟨x, hx⟩, h0⟩ := hleaf
    rw [Tm.on_leaf hx h0]
    obtain ⟨b, hb, _, rfl⟩ := lookup_mem hx
    exact hs b hb
  · have hon : t.on s = .mk t.name (t.args.map (Tm.on s)) := Tm.on_knot (by
      cases hl : lookup s t.name with
      | none => exact .inl rfl
      | some x => exact .inr fun h0 => hleaf ⟨⟨x, hl⟩, h0⟩)
    rw [hon]
    refine chk_make (xs := t.args) (by cases t; exact hc) (by simp) fun y hy => ?_
    obtain ⟨c, hc', rfl⟩ := List.mem_map.1 hy
    exact ih _ (Tm.lt_of_arg hc') (c2 c hc') rfl
theorem size_sub {s : List Bd} {M : Nat} (hM : 1 ≤ M) (hs : ∀ b ∈ s, b.2.size ≤ M) (t : Tm) : (t.on s).size ≤ t.size * M := by
  induction hN : SizeOf.sizeOf t using Nat.strongRecOn generalizing t with
  | _ N ih =>
  subst hN
  have hsz := Tm.size_eq t
  by_cases hleaf : (∃ x, lookup s t.name = some x) ∧ t.args = []
  · obtain ⟨⟨x, hx⟩, h0⟩ := hleaf
    rw [Tm.on_leaf hx h0]
    obtain ⟨b, hb, _, rfl⟩ := lookup_mem hx
    have := hs b hb
    have h1 := Nat.mul_le_mul_right M (Tm.size_pos t)
    omega
  · have hon : t.on s = .mk t.name (t.args.map (Tm.on s)) := Tm.on_knot (by
      cases hl : lookup s t.name with
      | none => exact .inl rfl
      | some x => exact .inr fun h0 => hleaf ⟨⟨x, hl⟩, h0⟩)
    have key : ∀ xs : List Tm, (∀ x ∈ xs, (x.on s).size ≤ x.size * M) → Tm.sizes (xs.map (Tm.on s)) ≤ Tm.sizes xs * M := by
      intro xs
      induction xs with
      | nil => intro _; simp [Tm.sizes]
      | cons x xs ih2 =>
        intro h
        have h1 := h x (by simp)
        have h2 := ih2 fun y hy => h y (by simp [hy])
        simp only [List.map_cons, Tm.sizes]
        rw [Nat.add_mul]
        omega
    have hk := key t.args fun x hx => ih _ (Tm.lt_of_arg hx) x rfl
    rw [hon]
    have e : (Tm.mk t.name (t.args.map (Tm.on s))).size = 1 + Tm.sizes (t.args.map (Tm.on s)) := rfl
    rw [e, hsz, Nat.add_mul]
    omega
/-- The list that is told. -/
def composed (s r : List Bd) : List Bd := sortB (keepB (joined s r))
theorem composed_named {s r : List Bd} (hs : OkB s) (hr : OkB r) : Named (composed s r) := ordered_named (sortB_ordered (keep_named (joined_named hs.ord hr.ord)))
theorem composed_iff {s r : List Bd} (hs : OkB s) (hr : OkB r) {y : ByteArray} {x : Tm} : lookup (composed s r) y = some x ↔ lookup (joined s r) y = some x ∧ x.name ≠ y := by
  rw [lookup_iff (composed_named hs hr), lookup_iff (joined_named hs.ord hr.ord)]
  unfold composed keepB
  rw [sortB_mem, List.mem_filter]
  refine and_congr_right fun _ => ?_
  unfold selfB
  simp
theorem joined_mem {s r : List Bd} {b : Bd} (h : b ∈ joined s r) : (∃ c ∈ s, b = (c.1, c.2.on r)) ∨ b ∈ r := by
  unfold joined at h
  rcases List.mem_append.1 h with h | h
  · obtain ⟨c, hc, rfl⟩ := List.mem_map.1 h
    exact .inl ⟨c, hc, rfl⟩
  · exact .inr (List.mem_filter.1 h).1
theorem composed_mem {s r : List Bd} {b : Bd} (h : b ∈ composed s r) : (∃ c ∈ s, b = (c.1, c.2.on r)) ∨ b ∈ r := joined_mem (List.mem_filter.1 (sortB_mem.1 h)).1
theorem composed_ok {s r : List Bd} (hs : OkB s) (hr : OkB r) : OkB (composed s r) := by
  refine ⟨sortB_ordered (keep_named (joined_named hs.ord hr.ord)), fun b hb => ?_, fun b hb => ?_, fun b hb => ?_⟩
  · rcases composed_mem hb with ⟨c, hc, rfl⟩ | h
    · exact hs.var c hc
    · exact hr.var b h
  · rcases composed_mem hb with ⟨c, hc, rfl⟩ | h
    · exact hs.nam c hc
    · exact hr.nam b h
  · rcases composed_mem hb with ⟨c, hc, rfl⟩ | h
    · exact chk_sub hr.chk (hs.chk c hc)
    · exact hr.chk b h
theorem none_of {s : List Bd} (hs : OkB s) {y : ByteArray} (h : isVar y = false) : lookup s y = none := lookup_none fun b hb e => by
  have := hs.var b hb
  rw [e, h] at this
  cases this
/-- One behind the other. -/
theorem on_composed {s r : List Bd} (hs : OkB s) (hr : OkB r) {t : Tm} (hc : t.chk = 0) : t.on (composed s r) = (t.on s).on r := by
  induction hN : SizeOf.sizeOf t using Nat.strongRecOn generalizing t with
  | _ N ih =>
  subst hN
  obtain ⟨c1, c2⟩ := Tm.chk_args hc
  by_cases ha : t.args = []
  · have ht := leaf_of ha
    rw [ht, on_leafT, on_leafT]
    have hself : ∀ x : Tm, x.chk = 0 → x.name = t.name → isVar t.name = true → x = leafT t.name := fun x hx hn hv => by
      have := leaf_of ((Tm.chk_args hx).1 (by rw [hn]; exact hv))
      rw [this, hn]
    have hiff := fun x => composed_iff hs hr (y := t.name) (x := x)
    cases hl : lookup s t.name with
    | some x =>
      obtain ⟨b, hb, hbn, rfl⟩ := lookup_mem hl
      have hv : isVar t.name = true := by rw [← hbn]; exact hs.var b hb
      have hj : lookup (joined s r) t.name = some (b.2.on r) := by rw [lookup_joined, hl]
      show (lookup (composed s r) t.name).getD _ = b.2.on r
      by_cases hn : (b.2.on r).name = t.name
      · have hnone : lookup (composed s r) t.name = none := by
          cases hq : lookup (composed s r) t.name with
          | none => rfl
          | some z =>
            obtain ⟨q1, q2⟩ := (hiff z).1 hq
            rw [hj] at q1
            cases q1
            exact absurd hn q2
        rw [hnone]
        exact (hself _ (chk_sub hr.chk (hs.chk b hb)) hn hv).symm
      · rw [(hiff _).2 ⟨hj, hn⟩]
        rfl
    | none =>
      show (lookup (composed s r) t.name).getD _ = (leafT t.name).on r
      rw [on_leafT]
      have hj : lookup (joined s r) t.name = lookup r t.name := by rw [lookup_joined, hl]
      cases hlr : lookup r t.name with
      | some x =>
        obtain ⟨b, hb, hbn, rfl⟩ := lookup_mem hlr
        have hv : isVar t.name = true := by rw [← hbn]; exact hr.var b hb
        by_cases hn : b.2.name = t.name
        · have hnone : lookup (composed s r) t.name = none := by
            cases hq : lookup (composed s r) t.name with
            | none => rfl
            | some z =>
              obtain ⟨q1, q2⟩ := (hiff z).1 hq
              rw [hj, hlr] at q1
              cases q1
              exact absurd hn q2
          rw [hnone]
          exact (hself _ (hr.chk b hb) hn hv).symm
        · rw [(hiff _).2 ⟨by rw [hj, hlr], hn⟩]
      | none =>
        have hnone : lookup (composed s r) t.name = none := by
          cases hq : lookup (composed s r) t.name with
          | none => rfl
          | some z =>
            obtain ⟨q1, _⟩ := (hiff z).1 hq
            rw [hj, hlr] at q1
            cases q1
        rw [hnone]
  · rw [Tm.on_knot (.inr ha), Tm.on_knot (s := s) (.inr ha), Tm.on_knot (s := r) (.inr (by rw [Tm.args_mk]; simpa using ha))]
    simp only [Tm.name_mk, Tm.args_mk, List.map_map]
    congr 1
    exact List.map_congr_left fun a h => ih _ (Tm.lt_of_arg h) (c2 a h) rfl
theorem ordered_ext : ∀ {l m : List Bd}, Ordered l → Ordered m → (∀ b, b ∈ l ↔ b ∈ m) → l = m
  | [], [], _, _, _ => rfl
  | [], c :: m, _, _, h => absurd ((h c).2 (by simp)) (by simp)
  | a :: l, [], _, _, h => absurd ((h a).1 (by simp)) (by simp)
  | a :: l, c :: m, hl, hm, h => by
    obtain ⟨l1, l2⟩ := List.pairwise_cons.1 hl
    obtain ⟨m1, m2⟩ := List.pairwise_cons.1 hm
    have e : a = c := by
      rcases List.mem_cons.1 ((h a).1 (by simp)) with e | e
      · exact e
      · rcases List.mem_cons.1 ((h c).2 (by simp)) with e2 | e2
        · exact e2.symm
        · have := sLt_trans (m1 a e) (l1 c e2)
          rw [sLt_irrefl] at this
          cases this
    subst e
    rw [ordered_ext l2 m2 fun b => ?_]
    have hb := h b
    simp only [List.mem_cons] at hb
    constructor
    · intro hbl
      rcases hb.1 (.inr hbl) with e | e
      · subst e
        have := l1 b hbl
        rw [sLt_irrefl] at this
        cases this
      · exact e
    · intro hbm
      rcases hb.2 (.inr hbm) with e | e
      · subst e
        have := m1 b hbm
        rw [sLt_irrefl] at this
        cases this
      · exact e
theorem leaf_chk {y : ByteArray} (h : nameOk y = true) : (leafT y).chk = 0 := by
  have h0 : chkOne (leafT y) = 0 := by
    unfold chkOne leafT
    rw [Tm.name_mk, if_pos h, if_neg (by simp [Tm.args_mk])]
  rw [Tm.chk_eq, if_pos h0]
  rfl
theorem composed_leaf {s r : List Bd} (hs : OkB s) (hr : OkB r) {y : ByteArray} {v : Tm} : (y, v) ∈ composed s r ↔ v = ((leafT y).on s).on r ∧ v.name ≠ y := by
  rw [← lookup_iff (composed_named hs hr), composed_iff hs hr, lookup_joined, on_leafT]
  refine and_congr_left fun hne => ?_
  cases hl : lookup s y with
  | some x => exact ⟨fun h => by cases h; rfl, fun h => by rw [h]; rfl⟩
  | none =>
    show lookup r y = some v ↔ v = (leafT y).on r
    rw [on_leafT]
    cases hlr : lookup r y with
    | some z => exact ⟨fun h => by cases h; rfl, fun h => by rw [h]; rfl⟩
    | none => exact ⟨fun h => by (cases h), fun h => absurd (by rw [h]; rfl) hne⟩
/-- Whichever two come first. -/
theorem composed_assoc {s r q : List Bd} (hs : OkB s) (hr : OkB r) (hq : OkB q) : composed (composed s r) q = composed s (composed r q) := by
  have h1 := composed_ok (composed_ok hs hr) hq
  have h2 := composed_ok hs (composed_ok hr hq)
  refine ordered_ext h1.ord h2.ord fun b => ?_
  obtain ⟨y, v⟩ := b
  have key : nameOk y = true → ((y, v) ∈ composed (composed s r) q ↔ (y, v) ∈ composed s (composed r q)) := fun hy => by
    rw [composed_leaf (composed_ok hs hr) hq, composed_leaf hs (composed_ok hr hq), on_composed hs hr (leaf_chk hy), on_composed hr hq (chk_sub hs.chk (leaf_chk hy))]
  exact ⟨fun h => (key (h1.nam _ h)).1 h, fun h => (key (h2.nam _ h)).2 h⟩
/-- Bindings that may be. -/
theorem bindsMay_ok {s : List Bd} (hs : OkB s) (hl : s.length ≤ 40) (hz : ∀ b ∈ s, b.2.size ≤ 200) : bindsMay s = 0 := by
  unfold bindsMay
  rw [if_neg (by omega)]
  have key : ∀ (p : Option ByteArray) (l : List Bd), Ordered l → (∀ q, p = some q → ∀ b ∈ l, sLt q b.1 = true) → (∀ b ∈ l, nameOk b.1 = true ∧ isVar b.1 = true ∧ b.2.may = 0) → bindsErr p l = 0 := by
    intro p l
    induction l generalizing p with
    | nil => intro _ _ _; rfl
    | cons b l ih =>
      intro ho hp hb
      obtain ⟨o1, o2⟩ := List.pairwise_cons.1 ho
      obtain ⟨b1, b2, b3⟩ := hb b (by simp)
      have he : bindErr p b = 0 := by
        unfold bindErr
        rw [if_pos ⟨b1, b2⟩, if_neg, b3]
        cases p with
        | none => simp
        | some q =>
          have := hp q rfl b (by simp)
          simp only [Option.any_some, ordBad, Bool.or_eq_true, decide_eq_true_eq, not_or]
          refine ⟨fun h => ?_, fun h => ?_⟩
          · rw [sLt_asymm this] at h; cases h
          · rw [h, sLt_irrefl] at this; cases this
      simp only [bindsErr]
      rw [if_pos he]
      exact ih (some b.1) o2 (fun q hq c hc => by cases hq; exact o1 c hc) fun c hc => hb c (by simp [hc])
  refine key none s hs.ord (by simp) fun b hb => ⟨hs.nam b hb, hs.var b hb, ?_⟩
  unfold Tm.may
  rw [if_neg (by have := hz b hb; omega)]
  exact hs.chk b hb
end Go.Proofs.Ytpajlfdhmjgpnaa
