/-
  Part 12 of the texts: PCompose; IrTerm. Conditions: none.
-/
import Derived.Test.YtpajlfdhmjgpnaaPathP11
namespace Go.Proofs.Ytpajlfdhmjgpnaa
open Go Go.RowKit
set_option linter.unusedVariables false

/-! ### what stands for a name -/
theorem lookup_nil (y : ByteArray) : lookup [] y = none := rfl
theorem lookup_cons (b : Bd) (l : List Bd) (y : ByteArray) : lookup (b :: l) y = if b.1 = y then some b.2 else lookup l y := by
  unfold lookup
  by_cases h : b.1 = y
  · rw [List.find?_cons_of_pos (by simpa using h), if_pos h]; rfl
  · rw [List.find?_cons_of_neg (by simpa using h), if_neg h]
theorem lookup_iff {l : List Bd} (hn : Named l) {y : ByteArray} {x : Tm} : lookup l y = some x ↔ (y, x) ∈ l := by
  induction l with
  | nil => simp [lookup_nil]
  | cons b l ih =>
    obtain ⟨n1, n2⟩ := List.nodup_cons.1 (show ((b :: l).map fun c : Bd => c.1).Nodup from hn)
    rw [lookup_cons, List.mem_cons]
    by_cases h : b.1 = y
    · rw [if_pos h]
      constructor
      · intro e
        cases e
        exact .inl (by rw [← h])
      · rintro (e | e)
        · rw [← e]
        · exact absurd (List.mem_map.2 ⟨(y, x), e, rfl⟩) (by subst h; exact n1)
    · rw [if_neg h, ih n2]
      constructor
      · exact .inr
      · rintro (e | e)
        · exact absurd (by rw [← e]) h
        · exact e
theorem lookup_putIn (r : List Bd) (y : ByteArray) : ∀ l : List Bd, lookup (putIn r l) y = (lookup l y).map (Tm.on r)
  | [] => rfl
  | b :: l => by
    have e : putIn r (b :: l) = (b.1, b.2.on r) :: putIn r l := rfl
    rw [e, lookup_cons, lookup_cons, lookup_putIn r y l]
    by_cases h : b.1 = y
    · rw [if_pos h, if_pos h]; rfl
    · rw [if_neg h, if_neg h]
theorem lookup_append (y : ByteArray) (m : List Bd) : ∀ l : List Bd, lookup (l ++ m) y = match lookup l y with | some x => some x | none => lookup m y
  | [] => rfl
  | b :: l => by
    rw [List.cons_append, lookup_cons, lookup_cons, lookup_append y m l]
    by_cases h : b.1 = y
    · rw [if_pos h, if_pos h]
    · rw [if_neg h, if_neg h]
theorem lookup_newIn (s : List Bd) (y : ByteArray) (h : lookup s y = none) : ∀ r : List Bd, lookup (newIn s r) y = lookup r y
  | [] => rfl
  | b :: r => by
    unfold newIn
    by_cases e : b.1 = y
    · rw [List.filter_cons_of_pos (by rw [e, h]; rfl), lookup_cons, lookup_cons, if_pos e, if_pos e]
    · have ih := lookup_newIn s y h r
      unfold newIn at ih
      rw [List.filter_cons]
      split
      · rw [lookup_cons, lookup_cons, if_neg e, if_neg e, ih]
      · rw [lookup_cons, if_neg e, ih]
theorem lookup_joined (s r : List Bd) (y : ByteArray) : lookup (joined s r) y = match lookup s y with | some x => some (x.on r) | none => lookup r y := by
  unfold joined
  rw [lookup_append, lookup_putIn]
  cases h : lookup s y with
  | none => rw [Option.map_none]; exact lookup_newIn s y h r
  | some x => rfl

/-! ### doing one behind the other -/
def leafT (y : ByteArray) : Tm := .mk y []
theorem on_leafT (s : List Bd) (y : ByteArray) : (leafT y).on s = (lookup s y).getD (leafT y) := by
  cases h : lookup s y with
  | none => rw [Tm.on_knot (.inl h)]; rfl
  | some x => rw [Tm.on_leaf h rfl]; rfl
theorem leaf_of {t : Tm} (h : t.args = []) : t = leafT t.name := by
  cases t with
  | mk n xs =>
    simp only [Tm.args_mk] at h
    subst h
    rfl
/-- A list of bindings as it should be. -/
structure OkB (s : List Bd) : Prop where
  ord : Ordered s
  var : ∀ b ∈ s, isVar b.1 = true
  nam : ∀ b ∈ s, nameOk b.1 = true
  chk : ∀ b ∈ s, b.2.chk = 0
theorem chk_parts {t : Tm} (h : t.chk = 0) : chkOne t = 0 := by
  rw [Tm.chk_eq] at h
  by_cases h1 : chkOne t = 0
  · exact h1
  · rw [if_neg h1] at h; exact h
theorem chk_make {n : ByteArray} {xs ys : List Tm} (h : (Tm.mk n xs).chk = 0) (hl : ys.length = xs.length) (hy : ∀ y ∈ ys, y.chk = 0) : (Tm.mk n ys).chk = 0 := by
  have h1 : chkOne (Tm.mk n ys) = 0 := by
    have := chk_parts h
    unfold chkOne at this ⊢
    rw [Tm.name_mk, Tm.args_mk] at this ⊢
    rw [hl]; exact this
  rw [Tm.chk_eq, if_pos h1, Tm.args_mk]
  clear h h1 hl
  induction ys with
  | nil => rfl
  | cons x ys ih =>
    simp only [Tm.chkL]
    rw [if_pos (hy x (by simp))]
    exact ih fun y h => hy y (by simp [h])
theorem chk_sub {s : List Bd} (hs : ∀ b ∈ s, b.2.chk = 0) {t : Tm} (hc : t.chk = 0) : (t.on s).chk = 0 := by
  induction hN : SizeOf.sizeOf t using Nat.strongRecOn generalizing t with
  | _ N ih =>
  subst hN
  obtain ⟨c1, c2⟩ := Tm.chk_args hc
  by_cases hleaf : (∃ x, lookup s t.name = some x) ∧ t.args = []
  · obtain ⟨⟨x, hx⟩, h0⟩ := hleaf
    rw [Tm.on_leaf hx h0]
    obtain ⟨b, hb, _, rfl⟩ := lookup_mem hx
    exact hs b hb
  · have hon : t.on s = .mk t.name (t.args.map (Tm.on s)) := Tm.on_knot (by
      cases hl : lookup s t.name with
      | none => exact .inl rfl
      | some x => exact .inr fun h0 => hleaf ⟨⟨x, hl⟩, h0⟩)
    rw [hon]
    refine chk_make (xs := t.args) (by cases t; exact hc) (by simp) fun y hy => ?_
    obtain ⟨c, hc', rfl⟩ := List.mem_map.1 hy
    exact ih _ (Tm.lt_of_arg hc') (c2 c hc') rfl
theorem size_sub {s : List Bd} {M : Nat} (hM : 1 ≤ M) (hs : ∀ b ∈ s, b.2.size ≤ M) (t : Tm) : (t.on s).size ≤ t.size * M := by
  induction hN : SizeOf.sizeOf t using Nat.strongRecOn generalizing t with
  | _ N ih =>
  subst hN
  have hsz := Tm.size_eq t
  by_cases hleaf : (∃ x, lookup s t.name = some x) ∧ t.args = []
  · obtain ⟨⟨x, hx⟩, h0⟩ := hleaf
    rw [Tm.on_leaf hx h0]
    obtain ⟨b, hb, _, rfl⟩ := lookup_mem hx
    have := hs b hb
    have h1 := Nat.mul_le_mul_right M (Tm.size_pos t)
    omega
  · have hon : t.on s = .mk t.name (t.args.map (Tm.on s)) := Tm.on_knot (by
      cases hl : lookup s t.name with
      | none => exact .inl rfl
      | some x => exact .inr fun h0 => hleaf ⟨⟨x, hl⟩, h0⟩)
    have key : ∀ xs : List Tm, (∀ x ∈ xs, (x.on s).size ≤ x.size * M) → Tm.sizes (xs.map (Tm.on s)) ≤ Tm.sizes xs * M := by
      intro xs
      induction xs with
      | nil => intro _; simp [Tm.sizes]
      | cons x xs ih2 =>
        intro h
        have h1 := h x (by simp)
        have h2 := ih2 fun y hy => h y (by simp [hy])
        simp only [List.map_cons, Tm.sizes]
        rw [Nat.add_mul]
        omega
    have hk := key t.args fun x hx => ih _ (Tm.lt_of_arg hx) x rfl
    rw [hon]
    have e : (Tm.mk t.name (t.args.map (Tm.on s))).size = 1 + Tm.sizes (t.args.map (Tm.on s)) := rfl
    rw [e, hsz, Nat.add_mul]
    omega
/-- The list that is told. -/
def composed (s r : List Bd) : List Bd := sortB (keepB (joined s r))
theorem composed_named {s r : List Bd} (hs : OkB s) (hr : OkB r) : Named (composed s r) := ordered_named (sortB_ordered (keep_named (joined_named hs.ord hr.ord)))
theorem composed_iff {s r : List Bd} (hs : OkB s) (hr : OkB r) {y : ByteArray} {x : Tm} : lookup (composed s r) y = some x ↔ lookup (joined s r) y = some x ∧ x.name ≠ y := by
  rw [lookup_iff (composed_named hs hr), lookup_iff (joined_named hs.ord hr.ord)]
  unfold composed keepB
  rw [sortB_mem, List.mem_filter]
  refine and_congr_right fun _ => ?_
  unfold selfB
  simp
theorem joined_mem {s r : List Bd} {b : Bd} (h : b ∈ joined s r) : (∃ c ∈ s, b = (c.1, c.2.on r)) ∨ b ∈ r := by
  unfold joined at h
  rcases List.mem_append.1 h with h | h
  · obtain ⟨c, hc, rfl⟩ := List.mem_map.1 h
    exact .inl ⟨c, hc, rfl⟩
  · exact .inr (List.mem_filter.1 h).1
theorem composed_mem {s r : List Bd} {b : Bd} (h : b ∈ composed s r) : (∃ c ∈ s, b = (c.1, c.2.on r)) ∨ b ∈ r := joined_mem (List.mem_filter.1 (sortB_mem.1 h)).1
theorem composed_ok {s r : List Bd} (hs : OkB s) (hr : OkB r) : OkB (composed s r) := by
  refine ⟨sortB_ordered (keep_named (joined_named hs.ord hr.ord)), fun b hb => ?_, fun b hb => ?_, fun b hb => ?_⟩
  · rcases composed_mem hb with ⟨c, hc, rfl⟩ | h
    · exact hs.var c hc
    · exact hr.var b h
  · rcases composed_mem hb with ⟨c, hc, rfl⟩ | h
    · exact hs.nam c hc
    · exact hr.nam b h
  · rcases composed_mem hb with ⟨c, hc, rfl⟩ | h
    · exact chk_sub hr.chk (hs.chk c hc)
    · exact hr.chk b h
theorem none_of {s : List Bd} (hs : OkB s) {y : ByteArray} (h : isVar y = false) : lookup s y = none := lookup_none fun b hb e => by
  have := hs.var b hb
  rw [e, h] at this
  cases this
/-- One behind the other. -/
theorem on_composed {s r : List Bd} (hs : OkB s) (hr : OkB r) {t : Tm} (hc : t.chk = 0) : t.on (composed s r) = (t.on s).on r := by
  induction hN : SizeOf.sizeOf t using Nat.strongRecOn generalizing t with
  | _ N ih =>
  subst hN
  obtain ⟨c1, c2⟩ := Tm.chk_args hc
  by_cases ha : t.args = []
  · have ht := leaf_of ha
    rw [ht, on_leafT, on_leafT]
    have hself : ∀ x : Tm, x.chk = 0 → x.name = t.name → isVar t.name = true → x = leafT t.name := fun x hx hn hv => by
      have := leaf_of ((Tm.chk_args hx).1 (by rw [hn]; exact hv))
      rw [this, hn]
    have hiff := fun x => composed_iff hs hr (y := t.name) (x := x)
    cases hl : lookup s t.name with
    | some x =>
      obtain ⟨b, hb, hbn, rfl⟩ := lookup_mem hl
      have hv : isVar t.name = true := by rw [← hbn]; exact hs.var b hb
      have hj : lookup (joined s r) t.name = some (b.2.on r) := by rw [lookup_joined, hl]
      show (lookup (composed s r) t.name).getD _ = b.2.on r
      by_cases hn : (b.2.on r).name = t.name
      · have hnone : lookup (composed s r) t.name = none := by
          cases hq : lookup (composed s r) t.name with
          | none => rfl
          | some z =>
            obtain ⟨q1, q2⟩ := (hiff z).1 hq
            rw [hj] at q1
            cases q1
            exact absurd hn q2
        rw [hnone]
        exact (hself _ (chk_sub hr.chk (hs.chk b hb)) hn hv).symm
      · rw [(hiff _).2 ⟨hj, hn⟩]
        rfl
    | none =>
      show (lookup (composed s r) t.name).getD _ = (leafT t.name).on r
      rw [on_leafT]
      have hj : lookup (joined s r) t.name = lookup r t.name := by rw [lookup_joined, hl]
      cases hlr : lookup r t.name with
      | some x =>
        obtain ⟨b, hb, hbn, rfl⟩ := lookup_mem hlr
        have hv : isVar t.name = true := by rw [← hbn]; exact hr.var b hb
        by_cases hn : b.2.name = t.name
        · have hnone : lookup (composed s r) t.name = none := by
            cases hq : lookup (composed s r) t.name with
            | none => rfl
            | some z =>
              obtain ⟨q1, q2⟩ := (hiff z).1 hq
              rw [hj, hlr] at q1
              cases q1
              exact absurd hn q2
          rw [hnone]
          exact (hself _ (hr.chk b hb) hn hv).symm
        · rw [(hiff _).2 ⟨by rw [hj, hlr], hn⟩]
      | none =>
        have hnone : lookup (composed s r) t.name = none := by
          cases hq : lookup (composed s r) t.name with
          | none => rfl
          | some z =>
            obtain ⟨q1, _⟩ := (hiff z).1 hq
            rw [hj, hlr] at q1
            cases q1
        rw [hnone]
  · rw [Tm.on_knot (.inr ha), Tm.on_knot (s := s) (.inr ha), Tm.on_knot (s := r) (.inr (by rw [Tm.args_mk]; simpa using ha))]
    simp only [Tm.name_mk, Tm.args_mk, List.map_map]
    congr 1
    exact List.map_congr_left fun a h => ih _ (Tm.lt_of_arg h) (c2 a h) rfl
theorem ordered_ext : ∀ {l m : List Bd}, Ordered l → Ordered m → (∀ b, b ∈ l ↔ b ∈ m) → l = m
  | [], [], _, _, _ => rfl
  | [], c :: m, _, _, h => absurd ((h c).2 (by simp)) (by simp)
  | a :: l, [], _, _, h => absurd ((h a).1 (by simp)) (by simp)
  | a :: l, c :: m, hl, hm, h => by
    obtain ⟨l1, l2⟩ := List.pairwise_cons.1 hl
    obtain ⟨m1, m2⟩ := List.pairwise_cons.1 hm
    have e : a = c := by
      rcases List.mem_cons.1 ((h a).1 (by simp)) with e | e
      · exact e
      · rcases List.mem_cons.1 ((h c).2 (by simp)) with e2 | e2
        · exact e2.symm
        · have := sLt_trans (m1 a e) (l1 c e2)
          rw [sLt_irrefl] at this
          cases this
    subst e
    rw [ordered_ext l2 m2 fun b => ?_]
    have hb := h b
    simp only [List.mem_cons] at hb
    constructor
    · intro hbl
      rcases hb.1 (.inr hbl) with e | e
      · subst e
        have := l1 b hbl
        rw [sLt_irrefl] at this
        cases this
      · exact e
    · intro hbm
      rcases hb.2 (.inr hbm) with e | e
      · subst e
        have := m1 b hbm
        rw [sLt_irrefl] at this
        cases this
      · exact e
theorem leaf_chk {y : ByteArray} (h : nameOk y = true) : (leafT y).chk = 0 := by
  have h0 : chkOne (leafT y) = 0 := by
    unfold chkOne leafT
    rw [Tm.name_mk, if_pos h, if_neg (by simp [Tm.args_mk])]
  rw [Tm.chk_eq, if_pos h0]
  rfl
theorem composed_leaf {s r : List Bd} (hs : OkB s) (hr : OkB r) {y : ByteArray} {v : Tm} : (y, v) ∈ composed s r ↔ v = ((leafT y).on s).on r ∧ v.name ≠ y := by
  rw [← lookup_iff (composed_named hs hr), composed_iff hs hr, lookup_joined, on_leafT]
  refine and_congr_left fun hne => ?_
  cases hl : lookup s y with
  | some x => exact ⟨fun h => by cases h; rfl, fun h => by rw [h]; rfl⟩
  | none =>
    show lookup r y = some v ↔ v = (leafT y).on r
    rw [on_leafT]
    cases hlr : lookup r y with
    | some z => exact ⟨fun h => by cases h; rfl, fun h => by rw [h]; rfl⟩
    | none => exact ⟨fun h => by (cases h), fun h => absurd (by rw [h]; rfl) hne⟩
/-- Whichever two come first. -/
theorem composed_assoc {s r q : List Bd} (hs : OkB s) (hr : OkB r) (hq : OkB q) : composed (composed s r) q = composed s (composed r q) := by
  have h1 := composed_ok (composed_ok hs hr) hq
  have h2 := composed_ok hs (composed_ok hr hq)
  refine ordered_ext h1.ord h2.ord fun b => ?_
  obtain ⟨y, v⟩ := b
  have key : nameOk y = true → ((y, v) ∈ composed (composed s r) q ↔ (y, v) ∈ composed s (composed r q)) := fun hy => by
    rw [composed_leaf (composed_ok hs hr) hq, composed_leaf hs (composed_ok hr hq), on_composed hs hr (leaf_chk hy), on_composed hr hq (chk_sub hs.chk (leaf_chk hy))]
  exact ⟨fun h => (key (h1.nam _ h)).1 h, fun h => (key (h2.nam _ h)).2 h⟩
/-- Bindings that may be. -/
theorem bindsMay_ok {s : List Bd} (hs : OkB s) (hl : s.length ≤ 40) (hz : ∀ b ∈ s, b.2.size ≤ 200) : bindsMay s = 0 := by
  unfold bindsMay
  rw [if_neg (by omega)]
  have key : ∀ (p : Option ByteArray) (l : List Bd), Ordered l → (∀ q, p = some q → ∀ b ∈ l, sLt q b.1 = true) → (∀ b ∈ l, nameOk b.1 = true ∧ isVar b.1 = true ∧ b.2.may = 0) → bindsErr p l = 0 := by
    intro p l
    induction l generalizing p with
    | nil => intro _ _ _; rfl
    | cons b l ih =>
      intro ho hp hb
      obtain ⟨o1, o2⟩ := List.pairwise_cons.1 ho
      obtain ⟨b1, b2, b3⟩ := hb b (by simp)
      have he : bindErr p b = 0 := by
        unfold bindErr
        rw [if_pos ⟨b1, b2⟩, if_neg, b3]
        cases p with
        | none => simp
        | some q =>
          have := hp q rfl b (by simp)
          simp only [Option.any_some, ordBad, Bool.or_eq_true, decide_eq_true_eq, not_or]
          refine ⟨fun h => ?_, fun h => ?_⟩
          · rw [sLt_asymm this] at h; cases h
          · rw [h, sLt_irrefl] at this; cases this
      simp only [bindsErr]
      rw [if_pos he]
      exact ih (some b.1) o2 (fun q hq c hc => by cases hq; exact o1 c hc) fun c hc => hb c (by simp [hc])
  refine key none s hs.ord (by simp) fun b hb => ⟨hs.nam b hb, hs.var b hb, ?_⟩
  unfold Tm.may
  rw [if_neg (by have := hz b hb; omega)]
  exact hs.chk b hb
theorem nov_on {n : ByteArray} {xs : List Tm} {m : List Bd} (hn : isVar n = false) (hm : ∀ b ∈ m, isVar b.1 = true) : (Tm.mk n xs).on m = .mk n (xs.map (Tm.on m)) :=
  Tm.on_knot (t := .mk n xs) (.inl (lookup_none fun b hb e => by rw [Tm.name_mk] at e; have := hm b hb; rw [e, hn] at this; cases this))
end Go.Proofs.Ytpajlfdhmjgpnaa

namespace Go.Proofs.Ytpajlfdhmjgpnaa
open Go Go.RowKit
set_option maxRecDepth 100000

def ir_term_letter : IR :=
  (.seq
  (.ops
  [.mk (some 2) none (.mov (.c (.one (.st (.bool false)))))
  .no])
  (.seq
  (.ops
  [.mk (some 3) none (.mov (.t 0)) .no, .mk (some 4) none (.bin .geq (.t 3) (.c (.one (.st (.int .u8 97)))))
  .no, .mk (some 5) none (.mov (.t 4)) .no, .mk (some 6) (some (5, true)) (.mov (.t 0)) .no, .mk (some 7) (some (5, true)) (.bin .leq (.t 6) (.c (.one (.st (.int .u8 122)))))
  .no, .mk (some 8) none
  (.pick (.t 5) (.t 7) (.c (.one (.st (.bool false)))))
  .no, .mk (some 9) none (.mov (.t 8)) .no, .mk (some 10) (some (9, false)) (.mov (.t 0)) .no, .mk (some 11) (some (9, false)) (.bin .geq (.t 10) (.c (.one (.st (.int .u8 65)))))
  .no, .mk (some 12) (some (9, false)) (.mov (.t 11)) .no, .mk (some 13) (some (12, true)) (.mov (.t 0)) .no, .mk (some 14) (some (12, true)) (.bin .leq (.t 13) (.c (.one (.st (.int .u8 90)))))
  .no, .mk (some 15) (some (9, false))
  (.pick (.t 12) (.t 14) (.c (.one (.st (.bool false)))))
  .no, .mk (some 16) none
  (.pick (.t 9) (.c (.one (.st (.bool true)))) (.t 15))
  .no, .mk (some 17) none (.mov (.t 16)) .no, .mk (some 18) (some (17, false)) (.mov (.t 0)) .no, .mk (some 19) (some (17, false)) (.bin .geq (.t 18) (.c (.one (.st (.int .u8 48)))))
  .no, .mk (some 20) (some (17, false)) (.mov (.t 19)) .no, .mk (some 21) (some (20, true)) (.mov (.t 0)) .no, .mk (some 22) (some (20, true)) (.bin .leq (.t 21) (.c (.one (.st (.int .u8 57)))))
  .no, .mk (some 23) (some (17, false))
  (.pick (.t 20) (.t 22) (.c (.one (.st (.bool false)))))
  .no, .mk (some 24) none
  (.pick (.t 17) (.c (.one (.st (.bool true)))) (.t 23))
  .no, .mk (some 2) none (.mov (.t 24)) .no])
  .ret))
theorem tr_term_letter : trCode Try.prog 25 [] (Try.f77.body.getD .skip) = some ir_term_letter := by kernel_rfl
theorem ac_term_letter {xs : List AV} {r : AV} (hn : xs.length ≤ 25) (h : ∀ C : Ctx, C.n = 25 → IWP Try.prog C [] ir_term_letter (FinQ [.t 2] r) (AS.start xs)) : ACalls Try.prog 77 xs r :=
  acalls_of Try.func77 rfl tr_term_letter rfl hn h
theorem acS_term_letter {xs : List AV} {S S' : AStore} {r : AV} (hn : xs.length ≤ 25) (h : Clean S → ∀ C : Ctx, C.n = 25 → IWP Try.prog C [] ir_term_letter (FinS C [.t 2] r S') (AS.startS xs S)) : ACallsS Try.prog 77 xs S r S' :=
  acallsS_of Try.func77 rfl tr_term_letter rfl hn h

def ir_R_IsLetter : IR :=
  (.seq
  (.ops
  [.mk (some 2) none (.mov (.c (.one (.st (.bool false)))))
  .no])
  (.seq
  (.ops
  [.mk (some 3) none (.mov (.t 0)) .no, .mk (some 4) none (.bin .geq (.t 3) (.c (.one (.st (.int .u8 97)))))
  .no, .mk (some 5) none (.mov (.t 4)) .no, .mk (some 6) (some (5, true)) (.mov (.t 0)) .no, .mk (some 7) (some (5, true)) (.bin .leq (.t 6) (.c (.one (.st (.int .u8 122)))))
  .no, .mk (some 8) none
  (.pick (.t 5) (.t 7) (.c (.one (.st (.bool false)))))
  .no, .mk (some 9) none (.mov (.t 8)) .no, .mk (some 10) (some (9, false)) (.mov (.t 0)) .no, .mk (some 11) (some (9, false)) (.bin .geq (.t 10) (.c (.one (.st (.int .u8 65)))))
  .no, .mk (some 12) (some (9, false)) (.mov (.t 11)) .no, .mk (some 13) (some (12, true)) (.mov (.t 0)) .no, .mk (some 14) (some (12, true)) (.bin .leq (.t 13) (.c (.one (.st (.int .u8 90)))))
  .no, .mk (some 15) (some (9, false))
  (.pick (.t 12) (.t 14) (.c (.one (.st (.bool false)))))
  .no, .mk (some 16) none
  (.pick (.t 9) (.c (.one (.st (.bool true)))) (.t 15))
  .no, .mk (some 17) none (.mov (.t 16)) .no, .mk (some 18) (some (17, false)) (.mov (.t 0)) .no, .mk (some 19) (some (17, false)) (.bin .geq (.t 18) (.c (.one (.st (.int .u8 48)))))
  .no, .mk (some 20) (some (17, false)) (.mov (.t 19)) .no, .mk (some 21) (some (20, true)) (.mov (.t 0)) .no, .mk (some 22) (some (20, true)) (.bin .leq (.t 21) (.c (.one (.st (.int .u8 57)))))
  .no, .mk (some 23) (some (17, false))
  (.pick (.t 20) (.t 22) (.c (.one (.st (.bool false)))))
  .no, .mk (some 24) none
  (.pick (.t 17) (.c (.one (.st (.bool true)))) (.t 23))
  .no, .mk (some 2) none (.mov (.t 24)) .no])
  .ret))
theorem tr_R_IsLetter : trCode Try.prog 25 [] (Try.f70.body.getD .skip) = some ir_R_IsLetter := by kernel_rfl
theorem ac_R_IsLetter {xs : List AV} {r : AV} (hn : xs.length ≤ 25) (h : ∀ C : Ctx, C.n = 25 → IWP Try.prog C [] ir_R_IsLetter (FinQ [.t 2] r) (AS.start xs)) : ACalls Try.prog 70 xs r :=
  acalls_of Try.func70 rfl tr_R_IsLetter rfl hn h
theorem acS_R_IsLetter {xs : List AV} {S S' : AStore} {r : AV} (hn : xs.length ≤ 25) (h : Clean S → ∀ C : Ctx, C.n = 25 → IWP Try.prog C [] ir_R_IsLetter (FinS C [.t 2] r S') (AS.startS xs S)) : ACallsS Try.prog 70 xs S r S' :=
  acallsS_of Try.func70 rfl tr_R_IsLetter rfl hn h

def ir_term_Name : IR :=
  (.seq
  (.ops
  [.mk (some 2) none (.mov (.c (.one (.st (.bool false)))))
  .no])
  (.seq
  (.seq
  (.ops
  [.mk (some 4) none (.mov (.t 0)) .no, .mk (some 5) none (.len true (.t 4)) .no, .mk (some 6) none (.bin .lss (.t 5) (.c (.one (.st (.int .i64 1)))))
  .no, .mk (some 7) none (.mov (.t 6)) .no, .mk (some 8) (some (7, false)) (.mov (.t 0)) .no, .mk (some 9) (some (7, false)) (.len true (.t 8)) .no, .mk (some 10) (some (7, false)) (.bin .gtr (.t 9) (.c (.one (.st (.int .i64 8)))))
  .no, .mk (some 11) none
  (.pick (.t 7) (.c (.one (.st (.bool true)))) (.t 10))
  .no, .mk (some 12) none (.mov (.t 11)) .no, .mk (some 13) (some (12, false)) (.mov (.t 0)) .no, .mk (some 14) (some (12, false))
  (.indexStr (.t 13) (.c (.one (.st (.int .i64 0)))))
  .no, .mk (some 15) (some (12, false)) (.bin .geq (.t 14) (.c (.one (.st (.int .u8 48)))))
  .no, .mk (some 16) (some (12, false)) (.mov (.t 15)) .no, .mk (some 17) (some (16, true)) (.mov (.t 0)) .no, .mk (some 18) (some (16, true))
  (.indexStr (.t 17) (.c (.one (.st (.int .i64 0)))))
  .no, .mk (some 19) (some (16, true)) (.bin .leq (.t 18) (.c (.one (.st (.int .u8 57)))))
  .no, .mk (some 20) (some (12, false))
  (.pick (.t 16) (.t 19) (.c (.one (.st (.bool false)))))
  .no, .mk (some 21) none
  (.pick (.t 12) (.c (.one (.st (.bool true)))) (.t 20))
  .no])
  (.cond (.t 21)
  (.seq
  (.ops
  [.mk (some 2) none (.mov (.c (.one (.st (.bool false)))))
  .no])
  .ret)
  .skip))
  (.seq
  (.seq
  (.ops
  [.mk (some 22) none (.mov (.t 0)) .no, .mk (some 23) none (.len true (.t 22)) .no, .mk (some 24) none (.mov (.c (.one (.st (.int .i64 0)))))
  .no])
  (.block 0
  (.loop
  (.seq
  (.ops
  [.mk (some 25) none (.bin .lss (.t 24) (.t 23))
  .no])
  (.seq (.cond (.t 25) .skip (.exit 0))
  (.seq
  (.block 1
  (.seq
  (.ops
  [.mk (some 26) none (.mov (.t 24)) .no, .mk (some 3) none (.mov (.t 26)) .no])
  (.seq
  (.ops
  [.mk (some 27) none (.mov (.t 0)) .no, .mk (some 28) none (.mov (.t 3)) .no, .mk (some 29) none (.indexStr (.t 27) (.t 28))
  .no, .mk (some 30) none (.call 77 [.t 29]) .no, .mk (some 31) none (.un .not (.t 30)) .no])
  (.cond (.t 31)
  (.seq
  (.ops
  [.mk (some 2) none (.mov (.c (.one (.st (.bool false)))))
  .no])
  .ret)
  .skip))))
  (.ops
  [.mk (some 32) none (.bin .add (.t 24) (.c (.one (.st (.int .i64 1)))))
  .no, .mk (some 24) none (.mov (.t 32)) .no])))))))
  (.seq
  (.ops
  [.mk (some 2) none (.mov (.c (.one (.st (.bool true)))))
  .no])
  .ret))))
theorem tr_term_Name : trCode Try.prog 33 [] (Try.f60.body.getD .skip) = some ir_term_Name := by kernel_rfl
theorem ac_term_Name {xs : List AV} {r : AV} (hn : xs.length ≤ 33) (h : ∀ C : Ctx, C.n = 33 → IWP Try.prog C [] ir_term_Name (FinQ [.t 2] r) (AS.start xs)) : ACalls Try.prog 60 xs r :=
  acalls_of Try.func60 rfl tr_term_Name rfl hn h
theorem acS_term_Name {xs : List AV} {S S' : AStore} {r : AV} (hn : xs.length ≤ 33) (h : Clean S → ∀ C : Ctx, C.n = 33 → IWP Try.prog C [] ir_term_Name (FinS C [.t 2] r S') (AS.startS xs S)) : ACallsS Try.prog 60 xs S r S' :=
  acallsS_of Try.func60 rfl tr_term_Name rfl hn h

def ir_R_IsName : IR :=
  (.seq
  (.ops
  [.mk (some 2) none (.mov (.c (.one (.st (.bool false)))))
  .no])
  (.seq
  (.seq
  (.ops
  [.mk (some 4) none (.mov (.t 0)) .no, .mk (some 5) none (.bin .eql (.t 4) (.c (.one (.st (.str (ByteArray.mk (#[])))))))
  .no, .mk (some 6) none (.mov (.t 5)) .no, .mk (some 7) (some (6, false)) (.mov (.t 0)) .no, .mk (some 8) (some (6, false)) (.len true (.t 7)) .no, .mk (some 9) (some (6, false)) (.bin .gtr (.t 8) (.c (.one (.st (.int .i64 8)))))
  .no, .mk (some 10) none
  (.pick (.t 6) (.c (.one (.st (.bool true)))) (.t 9))
  .no, .mk (some 11) none (.mov (.t 10)) .no, .mk (some 12) (some (11, false)) (.mov (.t 0)) .no, .mk (some 13) (some (11, false))
  (.indexStr (.t 12) (.c (.one (.st (.int .i64 0)))))
  .no, .mk (some 14) (some (11, false)) (.bin .geq (.t 13) (.c (.one (.st (.int .u8 48)))))
  .no, .mk (some 15) (some (11, false)) (.mov (.t 14)) .no, .mk (some 16) (some (15, true)) (.mov (.t 0)) .no, .mk (some 17) (some (15, true))
  (.indexStr (.t 16) (.c (.one (.st (.int .i64 0)))))
  .no, .mk (some 18) (some (15, true)) (.bin .leq (.t 17) (.c (.one (.st (.int .u8 57)))))
  .no, .mk (some 19) (some (11, false))
  (.pick (.t 15) (.t 18) (.c (.one (.st (.bool false)))))
  .no, .mk (some 20) none
  (.pick (.t 11) (.c (.one (.st (.bool true)))) (.t 19))
  .no])
  (.cond (.t 20)
  (.seq
  (.ops
  [.mk (some 2) none (.mov (.c (.one (.st (.bool false)))))
  .no])
  .ret)
  .skip))
  (.seq
  (.seq
  (.ops
  [.mk (some 3) none (.mov (.c (.one (.st (.int .i64 0)))))
  .no])
  (.block 0
  (.loop
  (.seq
  (.seq
  (.ops
  [.mk (some 21) none (.mov (.t 3)) .no, .mk (some 22) none (.mov (.t 0)) .no, .mk (some 23) none (.len true (.t 22)) .no, .mk (some 24) none (.bin .lss (.t 21) (.t 23))
  .no])
  (.cond (.t 24) .skip (.exit 0)))
  (.seq
  (.block 1
  (.seq
  (.ops
  [.mk (some 27) none (.mov (.t 0)) .no, .mk (some 28) none (.mov (.t 3)) .no, .mk (some 29) none (.indexStr (.t 27) (.t 28))
  .no, .mk (some 30) none (.call 70 [.t 29]) .no, .mk (some 31) none (.un .not (.t 30)) .no])
  (.cond (.t 31)
  (.seq
  (.ops
  [.mk (some 2) none (.mov (.c (.one (.st (.bool false)))))
  .no])
  .ret)
  .skip)))
  (.ops
  [.mk (some 25) none (.mov (.t 3)) .no, .mk (some 26) none (.bin .add (.t 25) (.c (.one (.st (.int .i64 1)))))
  .no, .mk (some 3) none (.mov (.t 26)) .no]))))))
  (.seq
  (.ops
  [.mk (some 2) none (.mov (.c (.one (.st (.bool true)))))
  .no])
  .ret))))
theorem tr_R_IsName : trCode Try.prog 32 [] (Try.f52.body.getD .skip) = some ir_R_IsName := by kernel_rfl
theorem ac_R_IsName {xs : List AV} {r : AV} (hn : xs.length ≤ 32) (h : ∀ C : Ctx, C.n = 32 → IWP Try.prog C [] ir_R_IsName (FinQ [.t 2] r) (AS.start xs)) : ACalls Try.prog 52 xs r :=
  acalls_of Try.func52 rfl tr_R_IsName rfl hn h
theorem acS_R_IsName {xs : List AV} {S S' : AStore} {r : AV} (hn : xs.length ≤ 32) (h : Clean S → ∀ C : Ctx, C.n = 32 → IWP Try.prog C [] ir_R_IsName (FinS C [.t 2] r S') (AS.startS xs S)) : ACallsS Try.prog 52 xs S r S' :=
  acallsS_of Try.func52 rfl tr_R_IsName rfl hn h

def ir_term_Variable : IR :=
  (.seq
  (.ops
  [.mk (some 2) none (.mov (.c (.one (.st (.bool false)))))
  .no])
  (.seq
  (.ops
  [.mk (some 3) none (.mov (.t 0)) .no, .mk (some 4) none (.bin .neq (.t 3) (.c (.one (.st (.str (ByteArray.mk (#[])))))))
  .no, .mk (some 5) none (.mov (.t 4)) .no, .mk (some 6) (some (5, true)) (.mov (.t 0)) .no, .mk (some 7) (some (5, true))
  (.indexStr (.t 6) (.c (.one (.st (.int .i64 0)))))
  .no, .mk (some 8) (some (5, true)) (.bin .geq (.t 7) (.c (.one (.st (.int .u8 65)))))
  .no, .mk (some 9) none
  (.pick (.t 5) (.t 8) (.c (.one (.st (.bool false)))))
  .no, .mk (some 10) none (.mov (.t 9)) .no, .mk (some 11) (some (10, true)) (.mov (.t 0)) .no, .mk (some 12) (some (10, true))
  (.indexStr (.t 11) (.c (.one (.st (.int .i64 0)))))
  .no, .mk (some 13) (some (10, true)) (.bin .leq (.t 12) (.c (.one (.st (.int .u8 90)))))
  .no, .mk (some 14) none
  (.pick (.t 10) (.t 13) (.c (.one (.st (.bool false)))))
  .no, .mk (some 2) none (.mov (.t 14)) .no])
  .ret))
theorem tr_term_Variable : trCode Try.prog 15 [] (Try.f61.body.getD .skip) = some ir_term_Variable := by kernel_rfl
theorem ac_term_Variable {xs : List AV} {r : AV} (hn : xs.length ≤ 15) (h : ∀ C : Ctx, C.n = 15 → IWP Try.prog C [] ir_term_Variable (FinQ [.t 2] r) (AS.start xs)) : ACalls Try.prog 61 xs r :=
  acalls_of Try.func61 rfl tr_term_Variable rfl hn h
theorem acS_term_Variable {xs : List AV} {S S' : AStore} {r : AV} (hn : xs.length ≤ 15) (h : Clean S → ∀ C : Ctx, C.n = 15 → IWP Try.prog C [] ir_term_Variable (FinS C [.t 2] r S') (AS.startS xs S)) : ACallsS Try.prog 61 xs S r S' :=
  acallsS_of Try.func61 rfl tr_term_Variable rfl hn h

def ir_R_IsVar : IR :=
  (.seq
  (.ops
  [.mk (some 2) none (.mov (.c (.one (.st (.bool false)))))
  .no])
  (.seq
  (.ops
  [.mk (some 3) none (.mov (.t 0)) .no, .mk (some 4) none (.bin .neq (.t 3) (.c (.one (.st (.str (ByteArray.mk (#[])))))))
  .no, .mk (some 5) none (.mov (.t 4)) .no, .mk (some 6) (some (5, true)) (.mov (.t 0)) .no, .mk (some 7) (some (5, true))
  (.indexStr (.t 6) (.c (.one (.st (.int .i64 0)))))
  .no, .mk (some 8) (some (5, true)) (.bin .geq (.t 7) (.c (.one (.st (.int .u8 65)))))
  .no, .mk (some 9) none
  (.pick (.t 5) (.t 8) (.c (.one (.st (.bool false)))))
  .no, .mk (some 10) none (.mov (.t 9)) .no, .mk (some 11) (some (10, true)) (.mov (.t 0)) .no, .mk (some 12) (some (10, true))
  (.indexStr (.t 11) (.c (.one (.st (.int .i64 0)))))
  .no, .mk (some 13) (some (10, true)) (.bin .leq (.t 12) (.c (.one (.st (.int .u8 90)))))
  .no, .mk (some 14) none
  (.pick (.t 10) (.t 13) (.c (.one (.st (.bool false)))))
  .no, .mk (some 2) none (.mov (.t 14)) .no])
  .ret))
theorem tr_R_IsVar : trCode Try.prog 15 [] (Try.f50.body.getD .skip) = some ir_R_IsVar := by kernel_rfl
theorem ac_R_IsVar {xs : List AV} {r : AV} (hn : xs.length ≤ 15) (h : ∀ C : Ctx, C.n = 15 → IWP Try.prog C [] ir_R_IsVar (FinQ [.t 2] r) (AS.start xs)) : ACalls Try.prog 50 xs r :=
  acalls_of Try.func50 rfl tr_R_IsVar rfl hn h
theorem acS_R_IsVar {xs : List AV} {S S' : AStore} {r : AV} (hn : xs.length ≤ 15) (h : Clean S → ∀ C : Ctx, C.n = 15 → IWP Try.prog C [] ir_R_IsVar (FinS C [.t 2] r S') (AS.startS xs S)) : ACallsS Try.prog 50 xs S r S' :=
  acallsS_of Try.func50 rfl tr_R_IsVar rfl hn h

def ir_term_within : IR :=
  (.seq
  (.ops
  [.mk (some 2) none (.box 24 (.t 0)) .no, .mk (some 4) none (.mov (.c (.one (.st (.int .i64 0)))))
  .no])
  (.seq
  (.ops
  [.mk (some 7) none (.mov (.t 1)) .no, .mk (some 8) none (.bin .sub (.t 7) (.c (.one (.st (.int .i64 1)))))
  .no, .mk (some 1) none (.mov (.t 8)) .no])
  (.seq
  (.seq
  (.ops
  [.mk (some 9) none (.fieldAddr 1 (.t 2)) .no, .mk (some 10) none (.load false 1 (.t 9)) .no, .mk (some 11) none (.len false (.t 10)) .no, .mk (some 12) none (.mov (.c (.one (.st (.int .i64 0)))))
  .no])
  (.block 0
  (.loop
  (.seq
  (.ops
  [.mk (some 13) none (.bin .lss (.t 12) (.t 11))
  .no])
  (.seq (.cond (.t 13) .skip (.exit 0))
  (.seq
  (.block 1
  (.seq
  (.ops
  [.mk (some 14) none (.indexAddr 2 (.t 10) (.t 12))
  .no, .mk (some 15) none (.load true 2 (.t 14)) .no, .mk (some 6) none
  (.alloc 24 [.st (.str (ByteArray.mk (#[]))), .full []])
  .no, .mk none none (.store 2 (.t 6) (.t 15))
  .no])
  (.seq
  (.seq
  (.ops
  [.mk (some 16) none (.mov (.t 1)) .no, .mk (some 17) none (.bin .lss (.t 16) (.c (.one (.st (.int .i64 0)))))
  .no])
  (.cond (.t 17) (.exit 0) .skip))
  (.ops
  [.mk (some 18) none (.load true 2 (.t 6)) .no, .mk (some 19) none (.mov (.t 1)) .no, .mk (some 20) none (.call 67 [.t 18, .t 19])
  .no, .mk (some 1) none (.mov (.t 20)) .no]))))
  (.ops
  [.mk (some 21) none (.bin .add (.t 12) (.c (.one (.st (.int .i64 1)))))
  .no, .mk (some 12) none (.mov (.t 21)) .no])))))))
  (.seq
  (.ops
  [.mk (some 22) none (.mov (.t 1)) .no, .mk (some 4) none (.mov (.t 22)) .no])
  .ret))))
theorem tr_term_within : trCode Try.prog 23 [] (Try.f67.body.getD .skip) = some ir_term_within := by kernel_rfl
theorem ac_term_within {xs : List AV} {r : AV} (hn : xs.length ≤ 23) (h : ∀ C : Ctx, C.n = 23 → IWP Try.prog C [] ir_term_within (FinQ [.t 4] r) (AS.start xs)) : ACalls Try.prog 67 xs r :=
  acalls_of Try.func67 rfl tr_term_within rfl hn h
theorem acS_term_within {xs : List AV} {S S' : AStore} {r : AV} (hn : xs.length ≤ 23) (h : Clean S → ∀ C : Ctx, C.n = 23 → IWP Try.prog C [] ir_term_within (FinS C [.t 4] r S') (AS.startS xs S)) : ACallsS Try.prog 67 xs S r S' :=
  acallsS_of Try.func67 rfl tr_term_within rfl hn h

def ir_R_Size : IR :=
  (.seq
  (.ops
  [.mk (some 2) none (.box 24 (.t 0)) .no, .mk (some 4) none (.mov (.c (.one (.st (.int .i64 0)))))
  .no])
  (.seq
  (.ops
  [.mk (some 5) none (.mov (.c (.one (.st (.int .i64 1)))))
  .no])
  (.seq
  (.seq
  (.ops
  [.mk (some 6) none (.mov (.c (.one (.st (.int .i64 0)))))
  .no])
  (.block 0
  (.loop
  (.seq
  (.seq
  (.ops
  [.mk (some 7) none (.mov (.t 6)) .no, .mk (some 8) none (.fieldAddr 1 (.t 2)) .no, .mk (some 9) none (.load false 1 (.t 8)) .no, .mk (some 10) none (.len false (.t 9)) .no, .mk (some 11) none (.bin .lss (.t 7) (.t 10))
  .no, .mk (some 12) none (.mov (.t 11)) .no, .mk (some 13) (some (12, true)) (.mov (.t 5)) .no, .mk (some 14) (some (12, true)) (.mov (.t 1)) .no, .mk (some 15) (some (12, true)) (.bin .leq (.t 13) (.t 14))
  .no, .mk (some 16) none
  (.pick (.t 12) (.t 15) (.c (.one (.st (.bool false)))))
  .no])
  (.cond (.t 16) .skip (.exit 0)))
  (.seq
  (.block 1
  (.ops
  [.mk (some 19) none (.mov (.t 5)) .no, .mk (some 20) none (.fieldAddr 1 (.t 2)) .no, .mk (some 21) none (.load false 1 (.t 20)) .no, .mk (some 22) none (.mov (.t 6)) .no, .mk (some 23) none (.indexAddr 2 (.t 21) (.t 22))
  .no, .mk (some 24) none (.load true 2 (.t 23)) .no, .mk (some 25) none (.mov (.t 1)) .no, .mk (some 26) none (.mov (.t 5)) .no, .mk (some 27) none (.bin .sub (.t 25) (.t 26))
  .no, .mk (some 28) none (.call 23 [.t 24, .t 27])
  .no, .mk (some 29) none (.bin .add (.t 19) (.t 28))
  .no, .mk (some 5) none (.mov (.t 29)) .no]))
  (.ops
  [.mk (some 17) none (.mov (.t 6)) .no, .mk (some 18) none (.bin .add (.t 17) (.c (.one (.st (.int .i64 1)))))
  .no, .mk (some 6) none (.mov (.t 18)) .no]))))))
  (.seq
  (.seq
  (.ops
  [.mk (some 30) none (.mov (.t 5)) .no, .mk (some 31) none (.mov (.t 1)) .no, .mk (some 32) none (.bin .gtr (.t 30) (.t 31))
  .no])
  (.cond (.t 32)
  (.seq
  (.ops
  [.mk (some 33) none (.mov (.t 1)) .no, .mk (some 34) none (.bin .add (.t 33) (.c (.one (.st (.int .i64 1)))))
  .no, .mk (some 4) none (.mov (.t 34)) .no])
  .ret)
  .skip))
  (.seq
  (.ops
  [.mk (some 35) none (.mov (.t 5)) .no, .mk (some 4) none (.mov (.t 35)) .no])
  .ret)))))
theorem tr_R_Size : trCode Try.prog 36 [] (Try.f23.body.getD .skip) = some ir_R_Size := by kernel_rfl
theorem ac_R_Size {xs : List AV} {r : AV} (hn : xs.length ≤ 36) (h : ∀ C : Ctx, C.n = 36 → IWP Try.prog C [] ir_R_Size (FinQ [.t 4] r) (AS.start xs)) : ACalls Try.prog 23 xs r :=
  acalls_of Try.func23 rfl tr_R_Size rfl hn h
theorem acS_R_Size {xs : List AV} {S S' : AStore} {r : AV} (hn : xs.length ≤ 36) (h : Clean S → ∀ C : Ctx, C.n = 36 → IWP Try.prog C [] ir_R_Size (FinS C [.t 4] r S') (AS.startS xs S)) : ACallsS Try.prog 23 xs S r S' :=
  acallsS_of Try.func23 rfl tr_R_Size rfl hn h

def ir_term_check : IR :=
  (.seq
  (.ops
  [.mk (some 1) none (.box 24 (.t 0)) .no, .mk (some 2) none (.mov (.c (.one (.st (.int .i64 0)))))
  .no])
  (.seq
  (.seq
  (.ops
  [.mk (some 6) none (.fieldAddr 0 (.t 1)) .no, .mk (some 7) none (.load false 1 (.t 6)) .no, .mk (some 8) none (.call 60 [.t 7]) .no, .mk (some 9) none (.un .not (.t 8)) .no])
  (.cond (.t 9)
  (.seq
  (.ops
  [.mk (some 2) none (.mov (.c (.one (.st (.int .i64 1)))))
  .no])
  .ret)
  .skip))
  (.seq
  (.seq
  (.ops
  [.mk (some 10) none (.fieldAddr 0 (.t 1)) .no, .mk (some 11) none (.load false 1 (.t 10)) .no, .mk (some 12) none (.call 61 [.t 11]) .no, .mk (some 13) none (.mov (.t 12)) .no, .mk (some 14) (some (13, true)) (.fieldAddr 1 (.t 1)) .no, .mk (some 15) (some (13, true)) (.load false 1 (.t 14)) .no, .mk (some 16) (some (13, true)) (.len false (.t 15)) .no, .mk (some 17) (some (13, true)) (.bin .gtr (.t 16) (.c (.one (.st (.int .i64 0)))))
  .no, .mk (some 18) none
  (.pick (.t 13) (.t 17) (.c (.one (.st (.bool false)))))
  .no])
  (.cond (.t 18)
  (.seq
  (.ops
  [.mk (some 2) none (.mov (.c (.one (.st (.int .i64 2)))))
  .no])
  .ret)
  .skip))
  (.seq
  (.seq
  (.ops
  [.mk (some 19) none (.fieldAddr 1 (.t 1)) .no, .mk (some 20) none (.load false 1 (.t 19)) .no, .mk (some 21) none (.len false (.t 20)) .no, .mk (some 22) none (.mov (.c (.one (.st (.int .i64 0)))))
  .no])
  (.block 0
  (.loop
  (.seq
  (.ops
  [.mk (some 23) none (.bin .lss (.t 22) (.t 21))
  .no])
  (.seq (.cond (.t 23) .skip (.exit 0))
  (.seq
  (.block 1
  (.seq
  (.ops
  [.mk (some 24) none (.indexAddr 2 (.t 20) (.t 22))
  .no, .mk (some 25) none (.load true 2 (.t 24)) .no, .mk (some 4) none
  (.alloc 24 [.st (.str (ByteArray.mk (#[]))), .full []])
  .no, .mk none none (.store 2 (.t 4) (.t 25))
  .no])
  (.seq
  (.ops
  [.mk (some 26) none (.load true 2 (.t 4)) .no, .mk (some 27) none (.call 68 [.t 26]) .no, .mk (some 5) none (.mov (.t 27)) .no])
  (.seq
  (.ops
  [.mk (some 28) none (.mov (.t 5)) .no, .mk (some 29) none (.bin .neq (.t 28) (.c (.one (.st (.int .i64 0)))))
  .no])
  (.cond (.t 29)
  (.seq
  (.ops
  [.mk (some 30) none (.mov (.t 5)) .no, .mk (some 2) none (.mov (.t 30)) .no])
  .ret)
  .skip)))))
  (.ops
  [.mk (some 31) none (.bin .add (.t 22) (.c (.one (.st (.int .i64 1)))))
  .no, .mk (some 22) none (.mov (.t 31)) .no])))))))
  (.seq
  (.ops
  [.mk (some 2) none (.mov (.c (.one (.st (.int .i64 0)))))
  .no])
  .ret)))))
theorem tr_term_check : trCode Try.prog 32 [] (Try.f68.body.getD .skip) = some ir_term_check := by kernel_rfl
theorem ac_term_check {xs : List AV} {r : AV} (hn : xs.length ≤ 32) (h : ∀ C : Ctx, C.n = 32 → IWP Try.prog C [] ir_term_check (FinQ [.t 2] r) (AS.start xs)) : ACalls Try.prog 68 xs r :=
  acalls_of Try.func68 rfl tr_term_check rfl hn h
theorem acS_term_check {xs : List AV} {S S' : AStore} {r : AV} (hn : xs.length ≤ 32) (h : Clean S → ∀ C : Ctx, C.n = 32 → IWP Try.prog C [] ir_term_check (FinS C [.t 2] r S') (AS.startS xs S)) : ACallsS Try.prog 68 xs S r S' :=
  acallsS_of Try.func68 rfl tr_term_check rfl hn h

def ir_term_Check : IR :=
  (.seq
  (.ops
  [.mk (some 1) none (.box 24 (.t 0)) .no, .mk (some 2) none (.mov (.c (.one (.st (.int .i64 0)))))
  .no])
  (.seq
  (.seq
  (.ops
  [.mk (some 3) none (.load true 2 (.t 1)) .no, .mk (some 4) none (.call 67
  [.t 3, .c (.one (.st (.int .i64 200)))])
  .no, .mk (some 5) none (.bin .lss (.t 4) (.c (.one (.st (.int .i64 0)))))
  .no])
  (.cond (.t 5)
  (.seq
  (.ops
  [.mk (some 2) none (.mov (.c (.one (.st (.int .i64 3)))))
  .no])
  .ret)
  .skip))
  (.seq
  (.ops
  [.mk (some 6) none (.load true 2 (.t 1)) .no, .mk (some 7) none (.call 68 [.t 6]) .no, .mk (some 2) none (.mov (.t 7)) .no])
  .ret)))
theorem tr_term_Check : trCode Try.prog 8 [] (Try.f48.body.getD .skip) = some ir_term_Check := by kernel_rfl
theorem ac_term_Check {xs : List AV} {r : AV} (hn : xs.length ≤ 8) (h : ∀ C : Ctx, C.n = 8 → IWP Try.prog C [] ir_term_Check (FinQ [.t 2] r) (AS.start xs)) : ACalls Try.prog 48 xs r :=
  acalls_of Try.func48 rfl tr_term_Check rfl hn h
theorem acS_term_Check {xs : List AV} {S S' : AStore} {r : AV} (hn : xs.length ≤ 8) (h : Clean S → ∀ C : Ctx, C.n = 8 → IWP Try.prog C [] ir_term_Check (FinS C [.t 2] r S') (AS.startS xs S)) : ACallsS Try.prog 48 xs S r S' :=
  acallsS_of Try.func48 rfl tr_term_Check rfl hn h

def ir_R_Knots : IR :=
  (.seq
  (.ops
  [.mk (some 1) none (.box 24 (.t 0)) .no, .mk (some 2) none (.mov (.c (.one (.full []))))
  .no])
  (.seq
  (.ops
  [.mk (some 5) none (.load true 2 (.t 1)) .no, .mk (some 6) none (.buildSlice false 24 2 [.t 5]) .no, .mk (some 3) none (.mov (.t 6)) .no])
  (.seq
  (.seq
  (.ops
  [.mk (some 4) none (.mov (.c (.one (.st (.int .i64 0)))))
  .no])
  (.block 0
  (.loop
  (.seq
  (.seq
  (.ops
  [.mk (some 7) none (.mov (.t 4)) .no, .mk (some 8) none (.fieldAddr 1 (.t 1)) .no, .mk (some 9) none (.load false 1 (.t 8)) .no, .mk (some 10) none (.len false (.t 9)) .no, .mk (some 11) none (.bin .lss (.t 7) (.t 10))
  .no])
  (.cond (.t 11) .skip (.exit 0)))
  (.seq
  (.block 1
  (.ops
  [.mk (some 14) none (.mov (.t 3)) .no, .mk (some 15) none (.fieldAddr 1 (.t 1)) .no, .mk (some 16) none (.load false 1 (.t 15)) .no, .mk (some 17) none (.mov (.t 4)) .no, .mk (some 18) none (.indexAddr 2 (.t 16) (.t 17))
  .no, .mk (some 19) none (.load true 2 (.t 18)) .no, .mk (some 20) none (.call 39 [.t 19]) .no, .mk (some 21) none (.append false 24 2 40 (.t 14) (.t 20))
  .no, .mk (some 3) none (.mov (.t 21)) .no]))
  (.ops
  [.mk (some 12) none (.mov (.t 4)) .no, .mk (some 13) none (.bin .add (.t 12) (.c (.one (.st (.int .i64 1)))))
  .no, .mk (some 4) none (.mov (.t 13)) .no]))))))
  (.seq
  (.ops
  [.mk (some 22) none (.mov (.t 3)) .no, .mk (some 2) none (.mov (.t 22)) .no])
  .ret))))
theorem tr_R_Knots : trCode Try.prog 23 [] (Try.f39.body.getD .skip) = some ir_R_Knots := by kernel_rfl
theorem ac_R_Knots {xs : List AV} {r : AV} (hn : xs.length ≤ 23) (h : ∀ C : Ctx, C.n = 23 → IWP Try.prog C [] ir_R_Knots (FinQ [.t 2] r) (AS.start xs)) : ACalls Try.prog 39 xs r :=
  acalls_of Try.func39 rfl tr_R_Knots rfl hn h
theorem acS_R_Knots {xs : List AV} {S S' : AStore} {r : AV} (hn : xs.length ≤ 23) (h : Clean S → ∀ C : Ctx, C.n = 23 → IWP Try.prog C [] ir_R_Knots (FinS C [.t 2] r S') (AS.startS xs S)) : ACallsS Try.prog 39 xs S r S' :=
  acallsS_of Try.func39 rfl tr_R_Knots rfl hn h

def ir_R_TermMay : IR :=
  (.seq
  (.ops
  [.mk (some 1) none (.box 24 (.t 0)) .no, .mk (some 2) none (.mov (.c (.one (.st (.int .i64 0)))))
  .no])
  (.seq
  (.seq
  (.ops
  [.mk (some 5) none (.load true 2 (.t 1)) .no, .mk (some 6) none (.call 23
  [.t 5, .c (.one (.st (.int .i64 200)))])
  .no, .mk (some 7) none (.bin .gtr (.t 6) (.c (.one (.st (.int .i64 200)))))
  .no])
  (.cond (.t 7)
  (.seq
  (.ops
  [.mk (some 2) none (.mov (.c (.one (.st (.int .i64 3)))))
  .no])
  .ret)
  .skip))
  (.seq
  (.ops
  [.mk (some 8) none (.load true 2 (.t 1)) .no, .mk (some 9) none (.call 39 [.t 8]) .no, .mk (some 3) none (.mov (.t 9)) .no])
  (.seq
  (.seq
  (.ops
  [.mk (some 4) none (.mov (.c (.one (.st (.int .i64 0)))))
  .no])
  (.block 0
  (.loop
  (.seq
  (.seq
  (.ops
  [.mk (some 10) none (.mov (.t 4)) .no, .mk (some 11) none (.mov (.t 3)) .no, .mk (some 12) none (.len false (.t 11)) .no, .mk (some 13) none (.bin .lss (.t 10) (.t 12))
  .no])
  (.cond (.t 13) .skip (.exit 0)))
  (.seq
  (.block 1
  (.seq
  (.seq
  (.ops
  [.mk (some 16) none (.mov (.t 3)) .no, .mk (some 17) none (.mov (.t 4)) .no, .mk (some 18) none (.indexAddr 2 (.t 16) (.t 17))
  .no, .mk (some 19) none (.fieldAddr 0 (.t 18)) .no, .mk (some 20) none (.load false 1 (.t 19)) .no, .mk (some 21) none (.call 52 [.t 20]) .no, .mk (some 22) none (.un .not (.t 21)) .no])
  (.cond (.t 22)
  (.seq
  (.ops
  [.mk (some 2) none (.mov (.c (.one (.st (.int .i64 1)))))
  .no])
  .ret)
  .skip))
  (.seq
  (.ops
  [.mk (some 23) none (.mov (.t 3)) .no, .mk (some 24) none (.mov (.t 4)) .no, .mk (some 25) none (.indexAddr 2 (.t 23) (.t 24))
  .no, .mk (some 26) none (.fieldAddr 0 (.t 25)) .no, .mk (some 27) none (.load false 1 (.t 26)) .no, .mk (some 28) none (.call 50 [.t 27]) .no, .mk (some 29) none (.mov (.t 28)) .no, .mk (some 30) (some (29, true)) (.mov (.t 3)) .no, .mk (some 31) (some (29, true)) (.mov (.t 4)) .no, .mk (some 32) (some (29, true)) (.indexAddr 2 (.t 30) (.t 31))
  .no, .mk (some 33) (some (29, true)) (.fieldAddr 1 (.t 32)) .no, .mk (some 34) (some (29, true)) (.load false 1 (.t 33))
  .no, .mk (some 35) (some (29, true)) (.len false (.t 34)) .no, .mk (some 36) (some (29, true)) (.bin .gtr (.t 35) (.c (.one (.st (.int .i64 0)))))
  .no, .mk (some 37) none
  (.pick (.t 29) (.t 36) (.c (.one (.st (.bool false)))))
  .no])
  (.cond (.t 37)
  (.seq
  (.ops
  [.mk (some 2) none (.mov (.c (.one (.st (.int .i64 2)))))
  .no])
  .ret)
  .skip))))
  (.ops
  [.mk (some 14) none (.mov (.t 4)) .no, .mk (some 15) none (.bin .add (.t 14) (.c (.one (.st (.int .i64 1)))))
  .no, .mk (some 4) none (.mov (.t 15)) .no]))))))
  (.seq
  (.ops
  [.mk (some 2) none (.mov (.c (.one (.st (.int .i64 0)))))
  .no])
  .ret)))))
theorem tr_R_TermMay : trCode Try.prog 38 [] (Try.f36.body.getD .skip) = some ir_R_TermMay := by kernel_rfl
theorem ac_R_TermMay {xs : List AV} {r : AV} (hn : xs.length ≤ 38) (h : ∀ C : Ctx, C.n = 38 → IWP Try.prog C [] ir_R_TermMay (FinQ [.t 2] r) (AS.start xs)) : ACalls Try.prog 36 xs r :=
  acalls_of Try.func36 rfl tr_R_TermMay rfl hn h
theorem acS_R_TermMay {xs : List AV} {S S' : AStore} {r : AV} (hn : xs.length ≤ 38) (h : Clean S → ∀ C : Ctx, C.n = 38 → IWP Try.prog C [] ir_R_TermMay (FinS C [.t 2] r S') (AS.startS xs S)) : ACallsS Try.prog 36 xs S r S' :=
  acallsS_of Try.func36 rfl tr_R_TermMay rfl hn h

def ir_R_TwoMay : IR :=
  (.seq
  (.ops
  [.mk (some 2) none (.box 24 (.t 0)) .no, .mk (some 3) none (.box 24 (.t 1)) .no, .mk (some 4) none (.mov (.c (.one (.st (.int .i64 0)))))
  .no])
  (.seq
  (.ops
  [.mk (some 6) none (.load true 2 (.t 2)) .no, .mk (some 7) none (.call 36 [.t 6]) .no, .mk (some 5) none (.mov (.t 7)) .no])
  (.seq
  (.seq
  (.ops
  [.mk (some 8) none (.mov (.t 5)) .no, .mk (some 9) none (.bin .eql (.t 8) (.c (.one (.st (.int .i64 0)))))
  .no])
  (.cond (.t 9)
  (.ops
  [.mk (some 10) none (.load true 2 (.t 3)) .no, .mk (some 11) none (.call 36 [.t 10]) .no, .mk (some 5) none (.mov (.t 11)) .no])
  .skip))
  (.seq
  (.ops
  [.mk (some 12) none (.mov (.t 5)) .no, .mk (some 4) none (.mov (.t 12)) .no])
  .ret))))
theorem tr_R_TwoMay : trCode Try.prog 13 [] (Try.f11.body.getD .skip) = some ir_R_TwoMay := by kernel_rfl
theorem ac_R_TwoMay {xs : List AV} {r : AV} (hn : xs.length ≤ 13) (h : ∀ C : Ctx, C.n = 13 → IWP Try.prog C [] ir_R_TwoMay (FinQ [.t 4] r) (AS.start xs)) : ACalls Try.prog 11 xs r :=
  acalls_of Try.func11 rfl tr_R_TwoMay rfl hn h
theorem acS_R_TwoMay {xs : List AV} {S S' : AStore} {r : AV} (hn : xs.length ≤ 13) (h : Clean S → ∀ C : Ctx, C.n = 13 → IWP Try.prog C [] ir_R_TwoMay (FinS C [.t 4] r S') (AS.startS xs S)) : ACallsS Try.prog 11 xs S r S' :=
  acallsS_of Try.func11 rfl tr_R_TwoMay rfl hn h

def ir_R_Same : IR :=
  (.seq
  (.ops
  [.mk (some 2) none (.box 24 (.t 0)) .no, .mk (some 3) none (.box 24 (.t 1)) .no, .mk (some 4) none (.mov (.c (.one (.st (.bool false)))))
  .no])
  (.seq
  (.seq
  (.ops
  [.mk (some 6) none (.fieldAddr 0 (.t 2)) .no, .mk (some 7) none (.load false 1 (.t 6)) .no, .mk (some 8) none (.fieldAddr 0 (.t 3)) .no, .mk (some 9) none (.load false 1 (.t 8)) .no, .mk (some 10) none (.bin .neq (.t 7) (.t 9))
  .no, .mk (some 11) none (.mov (.t 10)) .no, .mk (some 12) (some (11, false)) (.fieldAddr 1 (.t 2)) .no, .mk (some 13) (some (11, false)) (.load false 1 (.t 12)) .no, .mk (some 14) (some (11, false)) (.len false (.t 13)) .no, .mk (some 15) (some (11, false)) (.fieldAddr 1 (.t 3)) .no, .mk (some 16) (some (11, false)) (.load false 1 (.t 15)) .no, .mk (some 17) (some (11, false)) (.len false (.t 16)) .no, .mk (some 18) (some (11, false)) (.bin .neq (.t 14) (.t 17))
  .no, .mk (some 19) none
  (.pick (.t 11) (.c (.one (.st (.bool true)))) (.t 18))
  .no])
  (.cond (.t 19)
  (.seq
  (.ops
  [.mk (some 4) none (.mov (.c (.one (.st (.bool false)))))
  .no])
  .ret)
  .skip))
  (.seq
  (.seq
  (.ops
  [.mk (some 5) none (.mov (.c (.one (.st (.int .i64 0)))))
  .no])
  (.block 0
  (.loop
  (.seq
  (.seq
  (.ops
  [.mk (some 20) none (.mov (.t 5)) .no, .mk (some 21) none (.fieldAddr 1 (.t 2)) .no, .mk (some 22) none (.load false 1 (.t 21)) .no, .mk (some 23) none (.len false (.t 22)) .no, .mk (some 24) none (.bin .lss (.t 20) (.t 23))
  .no])
  (.cond (.t 24) .skip (.exit 0)))
  (.seq
  (.block 1
  (.seq
  (.ops
  [.mk (some 27) none (.fieldAddr 1 (.t 2)) .no, .mk (some 28) none (.load false 1 (.t 27)) .no, .mk (some 29) none (.mov (.t 5)) .no, .mk (some 30) none (.indexAddr 2 (.t 28) (.t 29))
  .no, .mk (some 31) none (.load true 2 (.t 30)) .no, .mk (some 32) none (.fieldAddr 1 (.t 3)) .no, .mk (some 33) none (.load false 1 (.t 32)) .no, .mk (some 34) none (.mov (.t 5)) .no, .mk (some 35) none (.indexAddr 2 (.t 33) (.t 34))
  .no, .mk (some 36) none (.load true 2 (.t 35)) .no, .mk (some 37) none (.call 26 [.t 31, .t 36])
  .no, .mk (some 38) none (.un .not (.t 37)) .no])
  (.cond (.t 38)
  (.seq
  (.ops
  [.mk (some 4) none (.mov (.c (.one (.st (.bool false)))))
  .no])
  .ret)
  .skip)))
  (.ops
  [.mk (some 25) none (.mov (.t 5)) .no, .mk (some 26) none (.bin .add (.t 25) (.c (.one (.st (.int .i64 1)))))
  .no, .mk (some 5) none (.mov (.t 26)) .no]))))))
  (.seq
  (.ops
  [.mk (some 4) none (.mov (.c (.one (.st (.bool true)))))
  .no])
  .ret))))
theorem tr_R_Same : trCode Try.prog 39 [] (Try.f26.body.getD .skip) = some ir_R_Same := by kernel_rfl
theorem ac_R_Same {xs : List AV} {r : AV} (hn : xs.length ≤ 39) (h : ∀ C : Ctx, C.n = 39 → IWP Try.prog C [] ir_R_Same (FinQ [.t 4] r) (AS.start xs)) : ACalls Try.prog 26 xs r :=
  acalls_of Try.func26 rfl tr_R_Same rfl hn h
theorem acS_R_Same {xs : List AV} {S S' : AStore} {r : AV} (hn : xs.length ≤ 39) (h : Clean S → ∀ C : Ctx, C.n = 39 → IWP Try.prog C [] ir_R_Same (FinS C [.t 4] r S') (AS.startS xs S)) : ACallsS Try.prog 26 xs S r S' :=
  acallsS_of Try.func26 rfl tr_R_Same rfl hn h

def ir_R_In : IR :=
  (.seq
  (.ops
  [.mk (some 4) none (.mov (.c (.one (.st (.bool false)))))
  .no])
  (.seq
  (.seq
  (.ops
  [.mk (some 5) none (.mov (.c (.one (.st (.int .i64 0)))))
  .no])
  (.block 0
  (.loop
  (.seq
  (.seq
  (.ops
  [.mk (some 6) none (.mov (.t 5)) .no, .mk (some 7) none (.mov (.t 1)) .no, .mk (some 8) none (.len false (.t 7)) .no, .mk (some 9) none (.bin .lss (.t 6) (.t 8))
  .no])
  (.cond (.t 9) .skip (.exit 0)))
  (.seq
  (.block 1
  (.seq
  (.ops
  [.mk (some 12) none (.mov (.t 1)) .no, .mk (some 13) none (.mov (.t 5)) .no, .mk (some 14) none (.indexAddr 1 (.t 12) (.t 13))
  .no, .mk (some 15) none (.load false 1 (.t 14)) .no, .mk (some 16) none (.mov (.t 0)) .no, .mk (some 17) none (.bin .eql (.t 15) (.t 16))
  .no])
  (.cond (.t 17)
  (.seq
  (.ops
  [.mk (some 4) none (.mov (.c (.one (.st (.bool true)))))
  .no])
  .ret)
  .skip)))
  (.ops
  [.mk (some 10) none (.mov (.t 5)) .no, .mk (some 11) none (.bin .add (.t 10) (.c (.one (.st (.int .i64 1)))))
  .no, .mk (some 5) none (.mov (.t 11)) .no]))))))
  (.seq
  (.ops
  [.mk (some 4) none (.mov (.c (.one (.st (.bool false)))))
  .no])
  .ret)))
theorem tr_R_In : trCode Try.prog 18 [] (Try.f51.body.getD .skip) = some ir_R_In := by kernel_rfl
theorem ac_R_In {xs : List AV} {r : AV} (hn : xs.length ≤ 18) (h : ∀ C : Ctx, C.n = 18 → IWP Try.prog C [] ir_R_In (FinQ [.t 4] r) (AS.start xs)) : ACalls Try.prog 51 xs r :=
  acalls_of Try.func51 rfl tr_R_In rfl hn h
theorem acS_R_In {xs : List AV} {S S' : AStore} {r : AV} (hn : xs.length ≤ 18) (h : Clean S → ∀ C : Ctx, C.n = 18 → IWP Try.prog C [] ir_R_In (FinS C [.t 4] r S') (AS.startS xs S)) : ACallsS Try.prog 51 xs S r S' :=
  acallsS_of Try.func51 rfl tr_R_In rfl hn h

def ir_R_VarsOf : IR :=
  (.seq
  (.ops
  [.mk (some 1) none (.box 24 (.t 0)) .no, .mk (some 2) none (.mov (.c (.one (.full []))))
  .no])
  (.seq
  (.ops
  [.mk (some 6) none (.load true 2 (.t 1)) .no, .mk (some 7) none (.call 39 [.t 6]) .no, .mk (some 3) none (.mov (.t 7)) .no])
  (.seq
  (.ops
  [.mk (some 4) none (.mov (.c (.one (.full []))))
  .no])
  (.seq
  (.seq
  (.ops
  [.mk (some 5) none (.mov (.c (.one (.st (.int .i64 0)))))
  .no])
  (.block 0
  (.loop
  (.seq
  (.seq
  (.ops
  [.mk (some 8) none (.mov (.t 5)) .no, .mk (some 9) none (.mov (.t 3)) .no, .mk (some 10) none (.len false (.t 9)) .no, .mk (some 11) none (.bin .lss (.t 8) (.t 10))
  .no])
  (.cond (.t 11) .skip (.exit 0)))
  (.seq
  (.block 1
  (.seq
  (.ops
  [.mk (some 14) none (.mov (.t 3)) .no, .mk (some 15) none (.mov (.t 5)) .no, .mk (some 16) none (.indexAddr 2 (.t 14) (.t 15))
  .no, .mk (some 17) none (.fieldAddr 0 (.t 16)) .no, .mk (some 18) none (.load false 1 (.t 17)) .no, .mk (some 19) none (.call 50 [.t 18]) .no, .mk (some 20) none (.mov (.t 19)) .no, .mk (some 21) (some (20, true)) (.mov (.t 3)) .no, .mk (some 22) (some (20, true)) (.mov (.t 5)) .no, .mk (some 23) (some (20, true)) (.indexAddr 2 (.t 21) (.t 22))
  .no, .mk (some 24) (some (20, true)) (.fieldAddr 0 (.t 23)) .no, .mk (some 25) (some (20, true)) (.load false 1 (.t 24))
  .no, .mk (some 26) (some (20, true)) (.mov (.t 4)) .no, .mk (some 27) (some (20, true)) (.call 51 [.t 25, .t 26])
  .no, .mk (some 28) (some (20, true)) (.un .not (.t 27)) .no, .mk (some 29) none
  (.pick (.t 20) (.t 28) (.c (.one (.st (.bool false)))))
  .no])
  (.cond (.t 29)
  (.ops
  [.mk (some 30) none (.mov (.t 4)) .no, .mk (some 31) none (.mov (.t 3)) .no, .mk (some 32) none (.mov (.t 5)) .no, .mk (some 33) none (.indexAddr 2 (.t 31) (.t 32))
  .no, .mk (some 34) none (.fieldAddr 0 (.t 33)) .no, .mk (some 35) none (.load false 1 (.t 34)) .no, .mk (some 36) none (.buildFlat [.t 35]) .no, .mk (some 37) none (.append false 9 1 16 (.t 30) (.t 36))
  .no, .mk (some 4) none (.mov (.t 37)) .no])
  .skip)))
  (.ops
  [.mk (some 12) none (.mov (.t 5)) .no, .mk (some 13) none (.bin .add (.t 12) (.c (.one (.st (.int .i64 1)))))
  .no, .mk (some 5) none (.mov (.t 13)) .no]))))))
  (.seq
  (.ops
  [.mk (some 38) none (.mov (.t 4)) .no, .mk (some 2) none (.mov (.t 38)) .no])
  .ret)))))
theorem tr_R_VarsOf : trCode Try.prog 39 [] (Try.f27.body.getD .skip) = some ir_R_VarsOf := by kernel_rfl
theorem ac_R_VarsOf {xs : List AV} {r : AV} (hn : xs.length ≤ 39) (h : ∀ C : Ctx, C.n = 39 → IWP Try.prog C [] ir_R_VarsOf (FinQ [.t 2] r) (AS.start xs)) : ACalls Try.prog 27 xs r :=
  acalls_of Try.func27 rfl tr_R_VarsOf rfl hn h
theorem acS_R_VarsOf {xs : List AV} {S S' : AStore} {r : AV} (hn : xs.length ≤ 39) (h : Clean S → ∀ C : Ctx, C.n = 39 → IWP Try.prog C [] ir_R_VarsOf (FinS C [.t 2] r S') (AS.startS xs S)) : ACallsS Try.prog 27 xs S r S' :=
  acallsS_of Try.func27 rfl tr_R_VarsOf rfl hn h

def ir_L_huge : IR :=
  (.seq
  (.ops
  [.mk (some 1) none (.box 24 (.t 0)) .no, .mk (some 2) none (.mov (.c (.one (.st (.bool false)))))
  .no])
  (.seq
  (.ops
  [.mk (some 3) none (.load true 2 (.t 1)) .no, .mk (some 4) none (.call 23
  [.t 3, .c (.one (.st (.int .i64 3000)))])
  .no, .mk (some 5) none (.bin .gtr (.t 4) (.c (.one (.st (.int .i64 3000)))))
  .no, .mk (some 2) none (.mov (.t 5)) .no])
  .ret))
theorem tr_L_huge : trCode Try.prog 6 [] (Try.f10.body.getD .skip) = some ir_L_huge := by kernel_rfl
theorem ac_L_huge {xs : List AV} {r : AV} (hn : xs.length ≤ 6) (h : ∀ C : Ctx, C.n = 6 → IWP Try.prog C [] ir_L_huge (FinQ [.t 2] r) (AS.start xs)) : ACalls Try.prog 10 xs r :=
  acalls_of Try.func10 rfl tr_L_huge rfl hn h
theorem acS_L_huge {xs : List AV} {S S' : AStore} {r : AV} (hn : xs.length ≤ 6) (h : Clean S → ∀ C : Ctx, C.n = 6 → IWP Try.prog C [] ir_L_huge (FinS C [.t 2] r S') (AS.startS xs S)) : ACallsS Try.prog 10 xs S r S' :=
  acallsS_of Try.func10 rfl tr_L_huge rfl hn h

def ir_term_Copy : IR :=
  (.seq
  (.ops
  [.mk (some 1) none (.box 24 (.t 0)) .no, .mk (some 2) none
  (.alloc 24 [.st (.str (ByteArray.mk (#[]))), .full []]) .no])
  (.seq
  (.ops
  [.mk (some 6) none (.fieldAddr 0 (.t 1)) .no, .mk (some 7) none (.load false 1 (.t 6)) .no, .mk (some 8) none
  (.build [.st (.str (ByteArray.mk (#[]))), .full []]
  [(0, 1, .t 7)])
  .no, .mk (some 3) none
  (.alloc 24 [.st (.str (ByteArray.mk (#[]))), .full []]) .no, .mk none none (.store 2 (.t 3) (.t 8)) .no])
  (.seq
  (.seq
  (.ops
  [.mk (some 9) none (.fieldAddr 1 (.t 1)) .no, .mk (some 10) none (.load false 1 (.t 9)) .no, .mk (some 11) none (.len false (.t 10)) .no, .mk (some 12) none (.mov (.c (.one (.st (.int .i64 0)))))
  .no])
  (.block 0
  (.loop
  (.seq
  (.ops
  [.mk (some 13) none (.bin .lss (.t 12) (.t 11))
  .no])
  (.seq (.cond (.t 13) .skip (.exit 0))
  (.seq
  (.block 1
  (.seq
  (.ops
  [.mk (some 14) none (.indexAddr 2 (.t 10) (.t 12))
  .no, .mk (some 15) none (.load true 2 (.t 14)) .no, .mk (some 5) none
  (.alloc 24 [.st (.str (ByteArray.mk (#[]))), .full []])
  .no, .mk none none (.store 2 (.t 5) (.t 15))
  .no])
  (.ops
  [.mk (some 16) none (.fieldAddr 1 (.t 3)) .no, .mk (some 17) none (.load false 1 (.t 16)) .no, .mk (some 18) none (.load true 2 (.t 5)) .no, .mk (some 19) none (.call 65 [.t 18]) .no, .mk (some 20) none (.buildSlice false 24 2 [.t 19]) .no, .mk (some 21) none (.append false 24 2 40 (.t 17) (.t 20))
  .no, .mk (some 22) none (.fieldAddr 1 (.t 3)) .no, .mk none none (.store 1 (.t 22) (.t 21))
  .no])))
  (.ops
  [.mk (some 23) none (.bin .add (.t 12) (.c (.one (.st (.int .i64 1)))))
  .no, .mk (some 12) none (.mov (.t 23)) .no])))))))
  (.seq
  (.ops
  [.mk (some 24) none (.load true 2 (.t 3)) .no, .mk none none (.store 2 (.t 2) (.t 24)) .no])
  .ret))))
theorem tr_term_Copy : trCode Try.prog 25 [] (Try.f65.body.getD .skip) = some ir_term_Copy := by kernel_rfl
theorem ac_term_Copy {xs : List AV} {r : AV} (hn : xs.length ≤ 25) (h : ∀ C : Ctx, C.n = 25 → IWP Try.prog C [] ir_term_Copy (FinQ [.cell 2 true 2] r) (AS.start xs)) : ACalls Try.prog 65 xs r :=
  acalls_of Try.func65 rfl tr_term_Copy rfl hn h
theorem acS_term_Copy {xs : List AV} {S S' : AStore} {r : AV} (hn : xs.length ≤ 25) (h : Clean S → ∀ C : Ctx, C.n = 25 → IWP Try.prog C [] ir_term_Copy (FinS C [.cell 2 true 2] r S') (AS.startS xs S)) : ACallsS Try.prog 65 xs S r S' :=
  acallsS_of Try.func65 rfl tr_term_Copy rfl hn h

def ir_slices_Index_string_string : IR :=
  (.seq
  (.ops
  [.mk (some 4) none (.mov (.c (.one (.st (.int .i64 0)))))
  .no])
  (.seq
  (.seq
  (.ops
  [.mk (some 6) none (.mov (.t 0)) .no, .mk (some 7) none (.len false (.t 6)) .no, .mk (some 8) none (.mov (.c (.one (.st (.int .i64 0)))))
  .no])
  (.block 0
  (.loop
  (.seq
  (.ops
  [.mk (some 9) none (.bin .lss (.t 8) (.t 7))
  .no])
  (.seq (.cond (.t 9) .skip (.exit 0))
  (.seq
  (.block 1
  (.seq
  (.ops
  [.mk (some 10) none (.mov (.t 8)) .no, .mk (some 5) none (.mov (.t 10)) .no])
  (.seq
  (.ops
  [.mk (some 11) none (.mov (.t 1)) .no, .mk (some 12) none (.mov (.t 0)) .no, .mk (some 13) none (.mov (.t 5)) .no, .mk (some 14) none (.indexAddr 1 (.t 12) (.t 13))
  .no, .mk (some 15) none (.load false 1 (.t 14)) .no, .mk (some 16) none (.bin .eql (.t 11) (.t 15))
  .no])
  (.cond (.t 16)
  (.seq
  (.ops
  [.mk (some 17) none (.mov (.t 5)) .no, .mk (some 4) none (.mov (.t 17)) .no])
  .ret)
  .skip))))
  (.ops
  [.mk (some 18) none (.bin .add (.t 8) (.c (.one (.st (.int .i64 1)))))
  .no, .mk (some 8) none (.mov (.t 18)) .no])))))))
  (.seq
  (.ops
  [.mk (some 4) none (.mov (.c (.one (.st (.int .i64 (-1))))))
  .no])
  .ret)))
theorem tr_slices_Index_string_string : trCode Try.prog 19 [] (Try.f78.body.getD .skip) = some ir_slices_Index_string_string := by kernel_rfl
theorem ac_slices_Index_string_string {xs : List AV} {r : AV} (hn : xs.length ≤ 19) (h : ∀ C : Ctx, C.n = 19 → IWP Try.prog C [] ir_slices_Index_string_string (FinQ [.t 4] r) (AS.start xs)) : ACalls Try.prog 78 xs r :=
  acalls_of Try.func78 rfl tr_slices_Index_string_string rfl hn h
theorem acS_slices_Index_string_string {xs : List AV} {S S' : AStore} {r : AV} (hn : xs.length ≤ 19) (h : Clean S → ∀ C : Ctx, C.n = 19 → IWP Try.prog C [] ir_slices_Index_string_string (FinS C [.t 4] r S') (AS.startS xs S)) : ACallsS Try.prog 78 xs S r S' :=
  acallsS_of Try.func78 rfl tr_slices_Index_string_string rfl hn h

def ir_slices_Contains_string_string : IR :=
  (.seq
  (.ops
  [.mk (some 4) none (.mov (.c (.one (.st (.bool false)))))
  .no])
  (.seq
  (.ops
  [.mk (some 5) none (.mov (.t 0)) .no, .mk (some 6) none (.mov (.t 1)) .no, .mk (some 7) none (.call 78 [.t 5, .t 6]) .no, .mk (some 8) none (.bin .geq (.t 7) (.c (.one (.st (.int .i64 0)))))
  .no, .mk (some 4) none (.mov (.t 8)) .no])
  .ret))
theorem tr_slices_Contains_string_string : trCode Try.prog 9 [] (Try.f62.body.getD .skip) = some ir_slices_Contains_string_string := by kernel_rfl
theorem ac_slices_Contains_string_string {xs : List AV} {r : AV} (hn : xs.length ≤ 9) (h : ∀ C : Ctx, C.n = 9 → IWP Try.prog C [] ir_slices_Contains_string_string (FinQ [.t 4] r) (AS.start xs)) : ACalls Try.prog 62 xs r :=
  acalls_of Try.func62 rfl tr_slices_Contains_string_string rfl hn h
theorem acS_slices_Contains_string_string {xs : List AV} {S S' : AStore} {r : AV} (hn : xs.length ≤ 9) (h : Clean S → ∀ C : Ctx, C.n = 9 → IWP Try.prog C [] ir_slices_Contains_string_string (FinS C [.t 4] r S') (AS.startS xs S)) : ACallsS Try.prog 62 xs S r S' :=
  acallsS_of Try.func62 rfl tr_slices_Contains_string_string rfl hn h

end Go.Proofs.Ytpajlfdhmjgpnaa
