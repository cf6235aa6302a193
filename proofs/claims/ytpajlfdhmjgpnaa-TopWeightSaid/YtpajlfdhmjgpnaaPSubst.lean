/-
  Bindings, in plain Lean: which may be, what stands for a name, substitution, what class bindings are of. No program in sight.
  Conditions: none.
-/
import Derived.Test.YtpajlfdhmjgpnaaPTerm
namespace Go.Proofs.Ytpajlfdhmjgpnaa
open Go Go.RowKit
set_option linter.unusedVariables false

/-! ### the order of texts -/
theorem bl_irrefl : ∀ l : List UInt8, Op.bytesLess l l = false
  | [] => by simp [Op.bytesLess]
  | x :: xs => by simp [Op.bytesLess, bl_irrefl xs]
theorem bl_trans : ∀ (a b c : List UInt8), Op.bytesLess a b = true → Op.bytesLess b c = true → Op.bytesLess a c = true
  | _, [], _, h, _ => by simp [Op.bytesLess] at h
  | _, _ :: _, [], _, k => by simp [Op.bytesLess] at k
  | [], _ :: _, _ :: _, _, _ => by simp [Op.bytesLess]
  | x :: xs, y :: ys, z :: zs, h, k => by
    simp only [Op.bytesLess, Bool.or_eq_true, Bool.and_eq_true, decide_eq_true_eq, beq_iff_eq] at h k ⊢
    rcases h with h | ⟨rfl, h⟩
    · rcases k with k | ⟨rfl, k⟩
      · exact .inl (UInt8.lt_trans h k)
      · exact .inl h
    · rcases k with k | ⟨rfl, k⟩
      · exact .inl k
      · exact .inr ⟨rfl, bl_trans xs ys zs h k⟩
theorem bl_total : ∀ (a b : List UInt8), Op.bytesLess a b = true ∨ a = b ∨ Op.bytesLess b a = true
  | [], [] => .inr (.inl rfl)
  | [], _ :: _ => .inl (by simp [Op.bytesLess])
  | _ :: _, [] => .inr (.inr (by simp [Op.bytesLess]))
  | x :: xs, y :: ys => by
    simp only [Op.bytesLess, Bool.or_eq_true, Bool.and_eq_true, decide_eq_true_eq, beq_iff_eq, List.cons.injEq]
    rcases Nat.lt_trichotomy x.toNat y.toNat with h | h | h
    · exact .inl (.inl h)
    · have e : x = y := UInt8.toNat_inj.1 h
      subst e
      rcases bl_total xs ys with h | h | h
      · exact .inl (.inr ⟨rfl, h⟩)
      · exact .inr (.inl ⟨rfl, h⟩)
      · exact .inr (.inr (.inr ⟨rfl, h⟩))
    · exact .inr (.inr (.inl h))
theorem bytes_eq {a b : ByteArray} (h : a.toList = b.toList) : a = b := by
  rw [ByteArray.toList_eq, ByteArray.toList_eq] at h
  cases a; cases b
  simp only at h
  congr 1
  exact Array.toList_inj.1 h
theorem sLt_irrefl (a : ByteArray) : sLt a a = false := bl_irrefl _
theorem sLt_trans {a b c : ByteArray} (h : sLt a b = true) (k : sLt b c = true) : sLt a c = true := bl_trans _ _ _ h k
theorem sLt_total (a b : ByteArray) : sLt a b = true ∨ a = b ∨ sLt b a = true := by
  rcases bl_total a.toList b.toList with h | h | h
  · exact .inl h
  · exact .inr (.inl (bytes_eq h))
  · exact .inr (.inr h)
theorem sLt_asymm {a b : ByteArray} (h : sLt a b = true) : sLt b a = false := by
  cases k : sLt b a with
  | false => rfl
  | true => have := sLt_trans h k; rw [sLt_irrefl] at this; cases this
def cmpI (a b : ByteArray) : Int := if sLt a b = true then -1 else if a = b then 0 else 1

/-! ### bindings -/
abbrev Bd := ByteArray × Tm
def encB (b : Bd) : List SV := [.str b.1, .str b.2.name, .list (b.2.args.map encT)]
abbrev aBds (l : List Bd) : AV := .one (.st (.list (l.map encB)))
abbrev aBd (b : Bd) : AV := .agg [.st (.str b.1), .st (.str b.2.name), .st (.list (b.2.args.map encT))]
theorem lens_encB {ts : List Bd} : ∀ x ∈ ts.map encB, x.length = 3 := by
  intro x hx
  obtain ⟨a, _, rfl⟩ := List.mem_map.1 hx
  rfl
/-- is the later name no greater? -/
def ordBad (cur prev : ByteArray) : Bool := sLt cur prev || decide (cur = prev)
def bindErr (prev : Option ByteArray) (b : Bd) : Int :=
  if nameOk b.1 = true ∧ isVar b.1 = true then (if (prev.any fun p => ordBad b.1 p) = true then 14 else b.2.may) else 1
def lastName (p : Option ByteArray) : List Bd → Option ByteArray
  | [] => p
  | b :: bs => lastName (some b.1) bs
def bindsErr : Option ByteArray → List Bd → Int
  | _, [] => 0
  | p, b :: bs => if bindErr p b = 0 then bindsErr (some b.1) bs else bindErr p b
def bindsMay (l : List Bd) : Int := if 40 < l.length then 3 else bindsErr none l
theorem bindsErr_append : ∀ (p : Option ByteArray) (xs ys : List Bd), bindsErr p (xs ++ ys) = if bindsErr p xs = 0 then bindsErr (lastName p xs) ys else bindsErr p xs
  | p, [], ys => by simp [bindsErr, lastName]
  | p, b :: xs, ys => by
    simp only [List.cons_append, bindsErr, lastName]
    by_cases h : bindErr p b = 0
    · simp only [h, if_true, bindsErr_append]
    · simp only [h, if_false]
theorem lastName_append (p : Option ByteArray) (xs : List Bd) (b : Bd) : lastName p (xs ++ [b]) = some b.1 := by
  induction xs generalizing p with
  | nil => rfl
  | cons x xs ih => exact ih _
theorem lastName_take {xs : List Bd} {k : Nat} {b : Bd} (h : xs[k]? = some b) : lastName none (xs.take (k + 1)) = some b.1 := by rw [take_snoc h, lastName_append]
theorem drop_get {α : Type} {xs : List α} {k : Nat} {a : α} (h : xs[k]? = some a) : xs.drop k = a :: xs.drop (k + 1) := by
  have hk := lt_of_get h
  rw [List.getElem?_eq_getElem hk] at h
  rw [List.drop_eq_getElem_cons hk]
  simp at h
  rw [h]
theorem bindsErr_get {xs : List Bd} {k : Nat} {b : Bd} (h : xs[k]? = some b) (h0 : bindsErr none (xs.take k) = 0) :
    (bindErr (lastName none (xs.take k)) b = 0 → bindsErr none (xs.take (k + 1)) = 0) ∧ (bindErr (lastName none (xs.take k)) b ≠ 0 → bindsErr none xs = bindErr (lastName none (xs.take k)) b) := by
  constructor
  · intro hb
    rw [take_snoc h, bindsErr_append, if_pos h0]
    simp [bindsErr, hb]
  · intro hb
    have e : bindsErr none xs = bindsErr none (xs.take k ++ xs.drop k) := by rw [List.take_append_drop]
    rw [e, bindsErr_append, if_pos h0, drop_get h]
    simp [bindsErr, hb]
theorem bindErr_zero {p : Option ByteArray} {b : Bd} (h : bindErr p b = 0) : nameOk b.1 = true ∧ isVar b.1 = true ∧ b.2.may = 0 ∧ ∀ q, p = some q → sLt q b.1 = true := by
  unfold bindErr at h
  split at h
  · rename_i h1
    split at h
    · cases h
    · rename_i h2
      refine ⟨h1.1, h1.2, h, fun q hq => ?_⟩
      subst hq
      simp only [Option.any_some, ordBad, Bool.or_eq_true, decide_eq_true_eq, not_or] at h2
      rcases sLt_total q b.1 with h3 | h3 | h3
      · exact h3
      · exact absurd h3.symm h2.2
      · exact absurd h3 h2.1
  · cases h
/-- Names in order, each greater than those ahead. -/
def Ordered (l : List Bd) : Prop := l.Pairwise fun a b => sLt a.1 b.1 = true
structure GoodBs (l : List Bd) : Prop where
  ord : Ordered l
  ok : ∀ b ∈ l, nameOk b.1 = true ∧ isVar b.1 = true ∧ b.2.may = 0
theorem bindsErr_good : ∀ {p : Option ByteArray} {l : List Bd}, bindsErr p l = 0 → (∀ q, p = some q → ∀ b ∈ l, sLt q b.1 = true) ∧ Ordered l ∧ ∀ b ∈ l, nameOk b.1 = true ∧ isVar b.1 = true ∧ b.2.may = 0
  | p, [], _ => ⟨by simp, List.Pairwise.nil, by simp⟩
  | p, b :: bs, h => by
    simp only [bindsErr] at h
    split at h
    · rename_i h1
      obtain ⟨q1, q2, q3, q4⟩ := bindErr_zero h1
      obtain ⟨r1, r2, r3⟩ := bindsErr_good h
      have r1 := r1 _ rfl
      refine ⟨fun q hq c hc => ?_, List.pairwise_cons.2 ⟨r1, r2⟩, fun c hc => ?_⟩
      · rcases List.mem_cons.1 hc with rfl | hc
        · exact q4 q hq
        · exact sLt_trans (q4 q hq) (r1 c hc)
      · rcases List.mem_cons.1 hc with rfl | hc
        · exact ⟨q1, q2, q3⟩
        · exact r3 c hc
    · rename_i h1
      exact absurd h h1
theorem bindsMay_good {l : List Bd} (h : bindsMay l = 0) : GoodBs l ∧ l.length ≤ 40 := by
  unfold bindsMay at h
  split at h
  · cases h
  · obtain ⟨_, h1, h2⟩ := bindsErr_good h
    exact ⟨⟨h1, h2⟩, by omega⟩

/-! ### what stands for a name -/
def lookup (l : List Bd) (n : ByteArray) : Option Tm := (l.find? fun b => decide (b.1 = n)).map (·.2)
theorem lookup_none {l : List Bd} {n : ByteArray} (h : ∀ b ∈ l, b.1 ≠ n) : lookup l n = none := by
  unfold lookup
  rw [List.find?_eq_none.2 (fun b hb => by simpa using h b hb)]
  rfl
theorem lookup_take {l : List Bd} {n : ByteArray} {k : Nat} {b : Bd} (hk : l[k]? = some b) (hb : b.1 = n) (h : ∀ c ∈ l.take k, c.1 ≠ n) : lookup l n = some b.2 := by
  unfold lookup
  rw [← List.take_append_drop k l, List.find?_append, List.find?_eq_none.2 (fun c hc => by simpa using h c hc), drop_get hk]
  simp [hb]
theorem lookup_mem {l : List Bd} {n : ByteArray} {x : Tm} (h : lookup l n = some x) : ∃ b ∈ l, b.1 = n ∧ b.2 = x := by
  unfold lookup at h
  rw [Option.map_eq_some_iff] at h
  obtain ⟨b, h1, h2⟩ := h
  exact ⟨b, List.mem_of_find?_eq_some h1, by simpa using List.find?_some h1, h2⟩
/-- In order, a name stands once. -/
theorem ordered_get {l : List Bd} (h : Ordered l) {i j : Nat} {a b : Bd} (hi : l[i]? = some a) (hj : l[j]? = some b) (hij : i < j) : sLt a.1 b.1 = true := by
  have h1 := List.pairwise_iff_getElem.1 h
  obtain ⟨hi1, hi2⟩ := List.getElem?_eq_some_iff.1 hi
  obtain ⟨hj1, hj2⟩ := List.getElem?_eq_some_iff.1 hj
  have := h1 i j hi1 hj1 hij
  rw [hi2, hj2] at this
  exact this

/-! ### substitution -/
mutual
def Tm.on (s : List Bd) : Tm → Tm
  | .mk n xs => match (if xs.isEmpty then lookup s n else none) with
    | some x => x
    | none => .mk n (Tm.onL s xs)
def Tm.onL (s : List Bd) : List Tm → List Tm
  | [] => []
  | t :: ts => t.on s :: Tm.onL s ts
end
theorem Tm.onL_eq (s : List Bd) : ∀ ts : List Tm, Tm.onL s ts = ts.map (Tm.on s)
  | [] => rfl
  | t :: ts => by rw [Tm.onL, Tm.onL_eq s ts]; rfl
theorem Tm.on_leaf {s : List Bd} {t x : Tm} (h : lookup s t.name = some x) (h0 : t.args = []) : t.on s = x := by
  cases t with
  | mk n xs =>
    simp only [Tm.name_mk, Tm.args_mk] at h h0
    subst h0
    simp [Tm.on, h]
theorem Tm.on_knot {s : List Bd} {t : Tm} (h : lookup s t.name = none ∨ t.args ≠ []) : t.on s = .mk t.name (t.args.map (Tm.on s)) := by
  cases t with
  | mk n xs =>
    simp only [Tm.name_mk, Tm.args_mk] at h ⊢
    rw [← Tm.onL_eq]
    rcases h with h | h
    · simp [Tm.on, h]
    · cases xs with
      | nil => exact absurd rfl h
      | cons y ys => simp [Tm.on]
/-- no knot with a variable's name has arguments -/
theorem Tm.chk_args {t : Tm} (h : t.chk = 0) : (isVar t.name = true → t.args = []) ∧ ∀ a ∈ t.args, a.chk = 0 := by
  have hc := Tm.chk_eq t
  rw [h] at hc
  by_cases h1 : chkOne t = 0
  · rw [if_pos h1] at hc
    have key : ∀ {xs : List Tm}, Tm.chkL xs = 0 → ∀ a ∈ xs, a.chk = 0 := by
      intro xs
      induction xs with
      | nil => simp
      | cons x xs ih =>
        intro hx a ha
        simp only [Tm.chkL] at hx
        split at hx
        · rename_i h2
          rcases List.mem_cons.1 ha with rfl | ha
          · exact h2
          · exact ih hx a ha
        · rename_i h2
          exact absurd hx h2
    refine ⟨fun hv => ?_, key hc.symm⟩
    unfold chkOne at h1
    split at h1
    · split at h1
      · cases h1
      · rename_i h2
        simp only [hv, true_and, Nat.not_lt, Nat.le_zero] at h2
        exact List.eq_nil_of_length_eq_zero h2
    · cases h1
  · rw [if_neg h1] at hc
    exact absurd hc.symm h1
theorem Tm.may_chk {t : Tm} (h : t.may = 0) : t.chk = 0 ∧ t.size ≤ 200 := by
  unfold Tm.may at h
  split at h
  · cases h
  · exact ⟨h, by omega⟩

/-! ### classes -/
def stays (s : List Bd) : Bool := s.all fun b => b.2.varsOf.all fun v => match lookup s v with
  | some x => decide (x.name = v)
  | none => true
def namesGo : List ByteArray → List Bd → Bool
  | _, [] => true
  | seen, b :: bs => isVar b.2.name && !isIn b.2.name seen && namesGo (seen ++ [b.2.name]) bs
def justNames (s : List Bd) : Bool := namesGo [] s
theorem namesGo_append : ∀ (seen : List ByteArray) (xs ys : List Bd), namesGo seen (xs ++ ys) = (namesGo seen xs && namesGo (seen ++ xs.map (·.2.name)) ys)
  | seen, [], ys => by simp [namesGo]
  | seen, b :: xs, ys => by
    simp only [List.cons_append, namesGo, namesGo_append, List.map_cons, List.append_assoc, Bool.and_assoc, List.nil_append]
end Go.Proofs.Ytpajlfdhmjgpnaa
