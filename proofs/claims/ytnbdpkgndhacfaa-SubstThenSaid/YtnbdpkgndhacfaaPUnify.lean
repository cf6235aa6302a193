/-
  Unification in plain Lean: a step, what holds of each state, and that it ends. No program in sight.
  Conditions: none.
-/
import Derived.Test.YtnbdpkgndhacfaaPSort
namespace Go.Proofs.Ytnbdpkgndhacfaa
open Go Go.RowKit
set_option linter.unusedVariables false

abbrev Pr := Tm × Tm
def encP (p : Pr) : List SV := [.str p.1.name, .list (p.1.args.map encT), .str p.2.name, .list (p.2.args.map encT)]
abbrev aPrs (l : List Pr) : AV := .one (.st (.list (l.map encP)))
abbrev aPr (p : Pr) : AV := .agg [.st (.str p.1.name), .st (.list (p.1.args.map encT)), .st (.str p.2.name), .st (.list (p.2.args.map encT))]
theorem lens_encP {ts : List Pr} : ∀ x ∈ ts.map encP, x.length = 4 := by
  intro x hx
  obtain ⟨a, _, rfl⟩ := List.mem_map.1 hx
  rfl

/-! ### a name within a term -/
def occ (x : ByteArray) (t : Tm) : Bool := t.knots.any fun k => decide (k.name = x)
theorem knotsL_any (p : Tm → Bool) : ∀ xs : List Tm, (Tm.knotsL xs).any p = xs.any fun t => t.knots.any p
  | [] => rfl
  | t :: ts => by rw [Tm.knotsL, List.any_append, knotsL_any p ts, List.any_cons]
theorem occ_eq (x : ByteArray) (t : Tm) : occ x t = (decide (t.name = x) || t.args.any (occ x)) := by
  unfold occ
  rw [Tm.knots_eq, List.any_cons, knotsL_any]
theorem occ_iff {x : ByteArray} {t : Tm} : occ x t = true ↔ t.name = x ∨ ∃ a ∈ t.args, occ x a = true := by
  rw [occ_eq, Bool.or_eq_true, decide_eq_true_eq, List.any_eq_true]
theorem occ_arg {x : ByteArray} {t a : Tm} (ha : a ∈ t.args) (h : occ x a = true) : occ x t = true := occ_iff.2 (.inr ⟨a, ha, h⟩)
theorem occ_no {x : ByteArray} {t : Tm} (h : occ x t = false) : t.name ≠ x ∧ ∀ a ∈ t.args, occ x a = false := by
  rw [occ_eq, Bool.or_eq_false_iff, decide_eq_false_iff_not, List.any_eq_false] at h
  exact ⟨h.1, fun a ha => by simpa using h.2 a ha⟩
theorem addVars_mem {x : ByteArray} (hv : isVar x = true) : ∀ (ks : List Tm) (l : List ByteArray), x ∈ addVars l ks ↔ x ∈ l ∨ ∃ k ∈ ks, k.name = x
  | [], l => by simp [addVars]
  | t :: ks, l => by
    have e : addVars l (t :: ks) = addVars (addVar l t.name) ks := rfl
    rw [e, addVars_mem hv ks]
    have h1 : x ∈ addVar l t.name ↔ x ∈ l ∨ t.name = x := by
      unfold addVar
      split
      · rename_i h
        rw [List.mem_append, List.mem_singleton]
        exact ⟨fun h => h.imp id Eq.symm, fun h => h.imp id Eq.symm⟩
      · rename_i h
        refine ⟨.inl, fun h' => ?_⟩
        rcases h' with h' | h'
        · exact h'
        · subst h'
          rw [hv, Bool.true_and, Bool.not_eq_true'] at h
          have h : isIn t.name l = true := by
            cases hc : isIn t.name l with
            | true => rfl
            | false => exact absurd hc h
          exact isIn_iff.1 h
    rw [h1]
    simp only [List.mem_cons, exists_eq_or_imp]
    constructor
    · rintro ((h | h) | h)
      · exact .inl h
      · exact .inr (.inl h)
      · exact .inr (.inr h)
    · rintro (h | h | h)
      · exact .inl (.inl h)
      · exact .inl (.inr h)
      · exact .inr h
/-- Among the variables, just if it stands within. -/
theorem isIn_varsOf {x : ByteArray} (hv : isVar x = true) (t : Tm) : isIn x t.varsOf = occ x t := by
  rw [Bool.eq_iff_iff, isIn_iff]
  unfold Tm.varsOf occ
  rw [addVars_mem hv]
  simp [List.any_eq_true]

/-! ### substitution, once more -/
def NoDom (s : List Bd) (t : Tm) : Prop := ∀ b ∈ s, occ b.1 t = false
theorem on_id {s : List Bd} {t : Tm} (h : NoDom s t) : t.on s = t := by
  induction hN : SizeOf.sizeOf t using Nat.strongRecOn generalizing t with
  | _ N ih =>
  subst hN
  have hl : lookup s t.name = none := lookup_none fun b hb e => (occ_no (h b hb)).1 e.symm
  rw [Tm.on_knot (.inl hl)]
  have hm : t.args.map (Tm.on s) = t.args := by
    conv => rhs; rw [← List.map_id t.args]
    exact List.map_congr_left fun a ha => ih _ (Tm.lt_of_arg ha) (fun b hb => (occ_no (h b hb)).2 a ha) rfl
  rw [hm]
  cases t; rfl
theorem lookup_dom {s : List Bd} {n : ByteArray} (h : lookup s n = none) : ∀ b ∈ s, b.1 ≠ n := by
  unfold lookup at h
  rw [Option.map_eq_none_iff, List.find?_eq_none] at h
  exact fun b hb e => h b hb (by simpa using e)
/-- What stands within a term with bindings in it. -/
theorem occ_on {s : List Bd} (hv : ∀ b ∈ s, isVar b.1 = true) {t : Tm} (hc : t.chk = 0) {y : ByteArray} (h : occ y (t.on s) = true) : (occ y t = true ∧ ∀ b ∈ s, b.1 ≠ y) ∨ ∃ b ∈ s, occ y b.2 = true := by
  induction hN : SizeOf.sizeOf t using Nat.strongRecOn generalizing t with
  | _ N ih =>
  subst hN
  obtain ⟨c1, c2⟩ := Tm.chk_args hc
  cases hl : lookup s t.name with
  | some x =>
    obtain ⟨b, hb, hbn, hbx⟩ := lookup_mem hl
    rw [Tm.on_leaf hl (c1 (by rw [← hbn]; exact hv b hb)), ← hbx] at h
    exact .inr ⟨b, hb, h⟩
  | none =>
    rw [Tm.on_knot (.inl hl), occ_iff] at h
    rcases h with h | ⟨a, ha, h⟩
    · simp only [Tm.name_mk] at h
      refine .inl ⟨occ_iff.2 (.inl h), fun b hb => ?_⟩
      rw [← h]
      exact lookup_dom hl b hb
    · simp only [Tm.args_mk, List.mem_map] at ha
      obtain ⟨c, hc', rfl⟩ := ha
      rcases ih _ (Tm.lt_of_arg hc') (c2 c hc') h rfl with h | h
      · exact .inl ⟨occ_arg hc' h.1, h.2⟩
      · exact .inr h
theorem chk_mk {t : Tm} (h : chkOne t = 0) (ha : ∀ a ∈ t.args, a.chk = 0) : t.chk = 0 := by
  rw [Tm.chk_eq, if_pos h]
  have key : ∀ {xs : List Tm}, (∀ a ∈ xs, a.chk = 0) → Tm.chkL xs = 0 := by
    intro xs
    induction xs with
    | nil => intro _; rfl
    | cons x xs ih => intro hx; simp only [Tm.chkL]; rw [if_pos (hx x (by simp))]; exact ih fun a ha => hx a (by simp [ha])
  exact key ha
theorem chk_one {t : Tm} (h : t.chk = 0) : chkOne t = 0 := by
  rw [Tm.chk_eq] at h
  by_cases h1 : chkOne t = 0
  · exact h1
  · rw [if_neg h1] at h; exact h
theorem chk_on {s : List Bd} (hs : ∀ b ∈ s, b.2.chk = 0) {t : Tm} (hc : t.chk = 0) : (t.on s).chk = 0 := by
  induction hN : SizeOf.sizeOf t using Nat.strongRecOn generalizing t with
  | _ N ih =>
  subst hN
  obtain ⟨c1, c2⟩ := Tm.chk_args hc
  by_cases hleaf : (∃ x, lookup s t.name = some x) ∧ t.args = []
  · obtain ⟨⟨x, hx⟩, h0⟩ := hleaf
    rw [Tm.on_leaf hx h0]
    obtain ⟨b, hb, _, rfl⟩ := lookup_mem hx
    exact hs b hb
  · have hon : t.on s = .mk t.name (t.args.map (Tm.on s)) := Tm.on_knot (by
      cases hl : lookup s t.name with
      | none => exact .inl rfl
      | some x => exact .inr fun h0 => hleaf ⟨⟨x, hl⟩, h0⟩)
    rw [hon]
    refine chk_mk ?_ fun a ha => ?_
    · have := chk_one hc
      unfold chkOne at this ⊢
      simpa only [Tm.name_mk, Tm.args_mk, List.length_map] using this
    · simp only [Tm.args_mk, List.mem_map] at ha
      obtain ⟨c, hc', rfl⟩ := ha
      exact ih _ (Tm.lt_of_arg hc') (c2 c hc') rfl

/-! ### a step -/
inductive UOut where
  | err (e : Int)
  | go (s : List Bd) (ps : List Pr)
def bindV (s : List Bd) (x : ByteArray) (t : Tm) : UOut :=
  if occ x t = true then .err 6 else if (s.all fun b => decide ((b.2.on [(x, t)]).size ≤ 2000)) = true then .go (sortB (s.map (fun b => (b.1, b.2.on [(x, t)])) ++ [(x, t)])) [] else .err 8
def stepU (s : List Bd) (p : Pr) : UOut :=
  if 2000 < (p.1.on s).size ∨ 2000 < (p.2.on s).size then .err 8
  else if isVar (p.1.on s).name = true ∧ (p.1.on s).name = (p.2.on s).name then .go s []
  else if isVar (p.1.on s).name = true then bindV s (p.1.on s).name (p.2.on s)
  else if isVar (p.2.on s).name = true then bindV s (p.2.on s).name (p.1.on s)
  else if (p.1.on s).name = (p.2.on s).name ∧ (p.1.on s).args.length = (p.2.on s).args.length then .go s ((p.1.on s).args.zip (p.2.on s).args)
  else .err 5
/-- What comes out, after so many steps. -/
inductive UEnds : Nat → List Bd → List Pr → List Bd × Int → Prop
  | nil {s} : UEnds 0 s [] (s, 0)
  | err {s p l e} : stepU s p = .err e → UEnds 1 s (p :: l) ([], e)
  | go {s p l s' ps n r} : stepU s p = .go s' ps → UEnds n s' (ps ++ l) r → UEnds (n + 1) s (p :: l) r

/-! ### what holds of each state -/
def Fits (C v : Nat) (s : List Bd) : List Pr → Prop
  | [] => True
  | p :: l => l.length + 2000 * min (p.1.on s).size 2000 + 4000000 * v ≤ C ∧ Fits C v s l
theorem Fits.less {C v v' : Nat} {s s' : List Bd} (hv : v' + 1 ≤ v) : ∀ {l : List Pr}, Fits C v s l → Fits C v' s' l
  | [], _ => trivial
  | p :: l, h => ⟨by have := h.1; have := Nat.min_le_right (p.1.on s').size 2000; omega, Fits.less hv h.2⟩
theorem Fits.more {C v m : Nat} {s : List Bd} {l : List Pr} (hm : m + 1 ≤ 2000) (hC : l.length + 2000 * (m + 1) + 4000000 * v ≤ C) (hl : Fits C v s l) : ∀ {ps : List Pr}, ps.length ≤ 2000 → (∀ c ∈ ps, (c.1.on s).size ≤ m) → Fits C v s (ps ++ l)
  | [], _, _ => hl
  | c :: ps, h1, h2 => by
    refine ⟨?_, Fits.more hm hC hl (by simp at h1; omega) fun c hc => h2 c (by simp [hc])⟩
    have h3 := h2 c (by simp)
    have h4 := Nat.min_le_left (c.1.on s).size 2000
    simp only [List.length_cons] at h1
    have e : (ps ++ l).length = ps.length + l.length := List.length_append
    show (ps ++ l).length + _ + _ ≤ C
    omega
structure UGood (U : List ByteArray) (C : Nat) (s : List Bd) (l : List Pr) : Prop where
  ord : Ordered s
  var : ∀ b ∈ s, isVar b.1 = true
  inU : ∀ b ∈ s, b.1 ∈ U
  chk : ∀ b ∈ s, b.2.chk = 0
  siz : ∀ b ∈ s, b.2.size ≤ 2000
  idem : ∀ b ∈ s, NoDom s b.2
  ranU : ∀ b ∈ s, ∀ y, occ y b.2 = true → y ∈ U
  lchk : ∀ p ∈ l, p.1.chk = 0 ∧ p.2.chk = 0
  lU : ∀ p ∈ l, ∀ y, (occ y p.1 = true → y ∈ U) ∧ (occ y p.2 = true → y ∈ U)
  lsiz : ∀ p ∈ l, p.1.size ≤ 2000 ∧ p.2.size ≤ 2000
  fits : Fits C (U.length - s.length) s l
theorem filter_less {x : ByteArray} : ∀ {m : List ByteArray}, x ∈ m → (m.filter fun y => !decide (y = x)).length + 1 ≤ m.length
  | y :: m, h => by
    have hle := List.length_filter_le (fun y => !decide (y = x)) m
    by_cases e : y = x
    · rw [List.filter_cons_of_neg (by simp [e]), List.length_cons]
      omega
    · rw [List.filter_cons_of_pos (by simp [e]), List.length_cons, List.length_cons]
      have := filter_less (x := x) (m := m) ((List.mem_cons.1 h).resolve_left fun h => e h.symm)
      omega
theorem nodup_sub : ∀ {l m : List ByteArray}, l.Nodup → (∀ x ∈ l, x ∈ m) → l.length ≤ m.length
  | [], m, _, _ => Nat.zero_le _
  | x :: l, m, hn, hs => by
    obtain ⟨n1, n2⟩ := List.nodup_cons.1 hn
    have h1 := nodup_sub (m := m.filter fun y => !decide (y = x)) n2 fun y hy => List.mem_filter.2 ⟨hs y (by simp [hy]), by
      have : y ≠ x := fun e => n1 (by rw [← e]; exact hy)
      simp [this]⟩
    have := filter_less (hs x (by simp))
    rw [List.length_cons]
    omega
theorem UGood.len {U : List ByteArray} {C : Nat} {s : List Bd} {l : List Pr} (h : UGood U C s l) : s.length ≤ U.length := by
  have := nodup_sub (l := s.map (fun b : Bd => b.1)) (m := U) (ordered_named h.ord) fun x hx => by
    obtain ⟨b, hb, rfl⟩ := List.mem_map.1 hx
    exact h.inU b hb
  simpa using this
theorem UGood.stack {U : List ByteArray} {C : Nat} {s : List Bd} {l : List Pr} (h : UGood U C s l) : l.length ≤ C + 1 := by
  cases l with
  | nil => simp
  | cons p l => have := h.fits.1; simp; omega

/-! ### a good state's next one is good -/
def sumL (s : List Bd) : List Pr → Nat
  | [] => 0
  | p :: l => (p.1.on s).size + sumL s l
theorem sumL_append (s : List Bd) : ∀ (ps l : List Pr), sumL s (ps ++ l) = sumL s ps + sumL s l
  | [], l => by simp [sumL]
  | p :: ps, l => by rw [List.cons_append, sumL, sumL_append s ps l, sumL]; omega
theorem zip_mem {α β : Type} {xs : List α} {ys : List β} {c : α × β} (h : c ∈ xs.zip ys) : c.1 ∈ xs ∧ c.2 ∈ ys := by
  obtain ⟨a, b⟩ := c
  exact ⟨(List.of_mem_zip h).1, (List.of_mem_zip h).2⟩
theorem UGood.tail {U : List ByteArray} {C : Nat} {s : List Bd} {p : Pr} {l : List Pr} (h : UGood U C s (p :: l)) : UGood U C s l :=
  { h with lchk := fun q hq => h.lchk q (by simp [hq]), lU := fun q hq => h.lU q (by simp [hq]), lsiz := fun q hq => h.lsiz q (by simp [hq]), fits := h.fits.2 }
theorem onU {U : List ByteArray} {C : Nat} {s : List Bd} {l : List Pr} (h : UGood U C s l) {t : Tm} (hc : t.chk = 0) (hU : ∀ y, occ y t = true → y ∈ U) : (t.on s).chk = 0 ∧ NoDom s (t.on s) ∧ ∀ y, occ y (t.on s) = true → y ∈ U := by
  refine ⟨chk_on h.chk hc, fun b hb => ?_, fun y hy => ?_⟩
  · cases ho : occ b.1 (t.on s) with
    | false => rfl
    | true =>
      rcases occ_on h.var hc ho with ⟨_, k⟩ | ⟨c, hc', k⟩
      · exact absurd rfl (k b hb)
      · rw [h.idem c hc' b hb] at k; cases k
  · rcases occ_on h.var hc hy with ⟨k, _⟩ | ⟨c, hc', k⟩
    · exact hU y k
    · exact h.ranU c hc' y k
theorem bindV_good {U : List ByteArray} {C : Nat} {s : List Bd} {l : List Pr} (h : UGood U C s l) {x : ByteArray} {t : Tm} (hx : isVar x = true) (hxU : x ∈ U) (hxs : ∀ b ∈ s, b.1 ≠ x) (htc : t.chk = 0) (hts : t.size ≤ 2000) (htn : NoDom s t) (htU : ∀ y, occ y t = true → y ∈ U) {s' : List Bd} {ps : List Pr} (hb : bindV s x t = .go s' ps) :
    ps = [] ∧ UGood U C s' l ∧ s.length < s'.length := by
  unfold bindV at hb
  split at hb
  · cases hb
  rename_i ho
  have ho : occ x t = false := by simpa using ho
  split at hb
  · rename_i hall
    cases hb
    have hone : ∀ b ∈ [(x, t)], isVar b.1 = true := by simp [hx]
    have honec : ∀ b ∈ ([(x, t)] : List Bd), b.2.chk = 0 := by simp [htc]
    have hmem : ∀ b, b ∈ s.map (fun b => (b.1, b.2.on [(x, t)])) ++ [(x, t)] ↔ (∃ c ∈ s, b = (c.1, c.2.on [(x, t)])) ∨ b = (x, t) := fun b => by
      simp only [List.mem_append, List.mem_map, List.mem_singleton]
      constructor
      · rintro (⟨c, hc, rfl⟩ | h)
        · exact .inl ⟨c, hc, rfl⟩
        · exact .inr h
      · rintro (⟨c, hc, rfl⟩ | h)
        · exact .inl ⟨c, hc, rfl⟩
        · exact .inr h
    have hnamed : Named (s.map (fun b => (b.1, b.2.on [(x, t)])) ++ [(x, t)]) := by
      have := ordered_named h.ord
      unfold Named at this ⊢
      rw [List.map_append, List.map_map, List.nodup_append]
      refine ⟨this, by simp, fun a ha b hb e => ?_⟩
      obtain ⟨c, hc, rfl⟩ := List.mem_map.1 ha
      simp only [List.map_cons, List.map_nil, List.mem_singleton] at hb
      exact hxs c hc (e.trans hb)
    have hoccr : ∀ c ∈ s, ∀ y, occ y (c.2.on [(x, t)]) = true → (occ y c.2 = true ∧ x ≠ y) ∨ occ y t = true := fun c hc y hy => by
      rcases occ_on hone (h.chk c hc) hy with ⟨k1, k2⟩ | ⟨b, hb, k⟩
      · exact .inl ⟨k1, k2 (x, t) (by simp)⟩
      · rw [List.mem_singleton] at hb
        subst hb
        exact .inr k
    -- no name bound stands within what stands for one
    have hfree : ∀ b ∈ s.map (fun b => (b.1, b.2.on [(x, t)])) ++ [(x, t)], ∀ c ∈ s.map (fun b => (b.1, b.2.on [(x, t)])) ++ [(x, t)], occ c.1 b.2 = false := fun b hb c hc => by
      cases hoc : occ c.1 b.2 with
      | false => rfl
      | true =>
        exfalso
        rcases (hmem b).1 hb with ⟨b', hb', rfl⟩ | rfl
        · rcases hoccr b' hb' _ hoc with ⟨k1, k2⟩ | k
          · rcases (hmem c).1 hc with ⟨c', hc', rfl⟩ | rfl
            · have := h.idem b' hb' c' hc'
              rw [k1] at this
              cases this
            · exact k2 rfl
          · rcases (hmem c).1 hc with ⟨c', hc', rfl⟩ | rfl
            · have := htn c' hc'
              rw [k] at this
              cases this
            · rw [k] at ho; cases ho
        · rcases (hmem c).1 hc with ⟨c', hc', rfl⟩ | rfl
          · have := htn c' hc'
            rw [hoc] at this
            cases this
          · rw [hoc] at ho; cases ho
    have hlen : (sortB (s.map (fun b => (b.1, b.2.on [(x, t)])) ++ [(x, t)])).length = s.length + 1 := by rw [sortB_length]; simp
    have hinU : ∀ b ∈ sortB (s.map (fun b => (b.1, b.2.on [(x, t)])) ++ [(x, t)]), b.1 ∈ U := fun b hb => by
      rcases (hmem b).1 (sortB_mem.1 hb) with ⟨c, hc, rfl⟩ | rfl
      · exact h.inU c hc
      · exact hxU
    have hle : s.length + 1 ≤ U.length := by
      have := nodup_sub (l := (sortB (s.map (fun b => (b.1, b.2.on [(x, t)])) ++ [(x, t)])).map (fun b : Bd => b.1)) (m := U) (ordered_named (sortB_ordered hnamed)) fun y hy => by
        obtain ⟨b, hb, rfl⟩ := List.mem_map.1 hy
        exact hinU b hb
      rw [List.length_map, hlen] at this
      exact this
    refine ⟨rfl, ⟨sortB_ordered hnamed, fun b hb => ?_, hinU, fun b hb => ?_, fun b hb => ?_, fun b hb c hc => hfree b (sortB_mem.1 hb) c (sortB_mem.1 hc), fun b hb y hy => ?_, h.lchk, h.lU, h.lsiz, Fits.less (by rw [hlen]; omega) h.fits⟩, by rw [hlen]; omega⟩
    · rcases (hmem b).1 (sortB_mem.1 hb) with ⟨c, hc, rfl⟩ | rfl
      · exact h.var c hc
      · exact hx
    · rcases (hmem b).1 (sortB_mem.1 hb) with ⟨c, hc, rfl⟩ | rfl
      · exact chk_on honec (h.chk c hc)
      · exact htc
    · rcases (hmem b).1 (sortB_mem.1 hb) with ⟨c, hc, rfl⟩ | rfl
      · have := List.all_eq_true.1 hall c hc
        simpa using this
      · exact hts
    · rcases (hmem b).1 (sortB_mem.1 hb) with ⟨c, hc, rfl⟩ | rfl
      · rcases hoccr c hc y hy with k | k
        · exact h.ranU c hc y k.1
        · exact htU y k
      · exact htU y hy
  · cases hb
theorem step_good {U : List ByteArray} {C : Nat} {s : List Bd} {p : Pr} {l : List Pr} (h : UGood U C s (p :: l)) {s' : List Bd} {ps : List Pr} (hs : stepU s p = .go s' ps) :
    UGood U C s' (ps ++ l) ∧ (s.length < s'.length ∨ (s' = s ∧ sumL s (ps ++ l) < sumL s (p :: l))) := by
  obtain ⟨hc1, hc2⟩ := h.lchk p (by simp)
  have hU := h.lU p (by simp)
  obtain ⟨a1, a2, a3⟩ := onU h hc1 fun y => (hU y).1
  obtain ⟨b1, b2, b3⟩ := onU h hc2 fun y => (hU y).2
  have hpos := Tm.size_pos (p.1.on s)
  have nameNo : ∀ {t : Tm}, NoDom s t → ∀ b ∈ s, b.1 ≠ t.name := fun {t} hn b hb e => (occ_no (hn b hb)).1 e.symm
  have nameU : ∀ {t : Tm}, (∀ y, occ y t = true → y ∈ U) → t.name ∈ U := fun {t} ht => ht _ (occ_iff.2 (.inl rfl))
  unfold stepU at hs
  split at hs
  · cases hs
  rename_i hz
  rw [not_or] at hz
  split at hs
  · cases hs
    exact ⟨h.tail, .inr ⟨rfl, by simp only [List.nil_append, sumL]; omega⟩⟩
  split at hs
  · rename_i hv
    obtain ⟨rfl, k1, k2⟩ := bindV_good h.tail hv (nameU a3) (nameNo a2) b1 (by omega) b2 b3 hs
    exact ⟨k1, .inl k2⟩
  split at hs
  · rename_i hv
    obtain ⟨rfl, k1, k2⟩ := bindV_good h.tail hv (nameU b3) (nameNo b2) a1 (by omega) a2 a3 hs
    exact ⟨k1, .inl k2⟩
  split at hs
  · rename_i heq
    cases hs
    have hsz := Tm.size_eq (p.1.on s)
    have hlen := Tm.length_le (p.1.on s).args
    have hid : ∀ a ∈ (p.1.on s).args, a.on s = a := fun a ha => on_id fun b hb => (occ_no (a2 b hb)).2 a ha
    have hsum : ∀ (xs ys : List Tm), (∀ a ∈ xs, a.on s = a) → sumL s (xs.zip ys) ≤ Tm.sizes xs := by
      intro xs
      induction xs with
      | nil => intro ys _; simp [sumL]
      | cons x xs ih =>
        intro ys hx
        cases ys with
        | nil => simp [sumL]
        | cons y ys =>
          have := ih ys fun a ha => hx a (by simp [ha])
          simp only [List.zip_cons_cons, sumL, Tm.sizes]
          rw [hx x (by simp)]
          omega
    have hzl : ((p.1.on s).args.zip (p.2.on s).args).length ≤ (p.1.on s).args.length := by rw [List.length_zip]; exact Nat.min_le_left _ _
    have hmin : min (p.1.on s).size 2000 = (p.1.on s).size := Nat.min_eq_left (by omega)
    have hf := h.fits.1
    rw [hmin] at hf
    have hszb := Tm.size_eq (p.2.on s)
    refine ⟨⟨h.ord, h.var, h.inU, h.chk, h.siz, h.idem, h.ranU, fun q hq => ?_, fun q hq => ?_, fun q hq => ?_, Fits.more (m := (p.1.on s).size - 1) (by omega) (by omega) h.fits.2 (by omega) fun c hc => ?_⟩, .inr ⟨rfl, ?_⟩⟩
    · rcases List.mem_append.1 hq with hq | hq
      · exact ⟨(Tm.chk_args a1).2 _ (zip_mem hq).1, (Tm.chk_args b1).2 _ (zip_mem hq).2⟩
      · exact h.tail.lchk q hq
    · rcases List.mem_append.1 hq with hq | hq
      · exact fun y => ⟨fun hy => a3 y (occ_arg (zip_mem hq).1 hy), fun hy => b3 y (occ_arg (zip_mem hq).2 hy)⟩
      · exact h.tail.lU q hq
    · rcases List.mem_append.1 hq with hq | hq
      · have h1 := Tm.size_mem (zip_mem hq).1
        have h2 := Tm.size_mem (zip_mem hq).2
        omega
      · exact h.tail.lsiz q hq
    · rw [hid _ (zip_mem hc).1]
      have h1 := Tm.size_mem (zip_mem hc).1
      omega
    · rw [sumL_append]
      have h1 := hsum _ (p.2.on s).args hid
      simp only [sumL]
      omega
  · cases hs
theorem uends_all {U : List ByteArray} {C : Nat} : ∀ (v m : Nat) (s : List Bd) (l : List Pr), UGood U C s l → U.length - s.length = v → sumL s l = m → ∃ n r, UEnds n s l r := by
  intro v
  induction v using Nat.strongRecOn with
  | _ v ihv =>
  intro m
  induction m using Nat.strongRecOn with
  | _ m ihm =>
  intro s l h hv hm
  cases l with
  | nil => exact ⟨0, _, .nil⟩
  | cons p l =>
    cases hs : stepU s p with
    | err e => exact ⟨1, _, .err hs⟩
    | go s' ps =>
      obtain ⟨h', hd⟩ := step_good h hs
      have hlen := h'.len
      rcases hd with hd | ⟨rfl, hd⟩
      · obtain ⟨n, r, hr⟩ := ihv (U.length - s'.length) (by omega) _ s' _ h' rfl rfl
        exact ⟨n + 1, r, .go hs hr⟩
      · obtain ⟨n, r, hr⟩ := ihm (sumL s' (ps ++ l)) (by omega) s' _ h' hv rfl
        exact ⟨n + 1, r, .go hs hr⟩
end Go.Proofs.Ytnbdpkgndhacfaa
