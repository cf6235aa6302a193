/-
  Terms without what is bound, in plain Lean: their form, rows, steps. No program in sight.
  Conditions: none.
-/
import Derived.Test.YtelmgldeghmkbaaPTerm
namespace Go.Proofs.Ytelmgldeghmkbaa
open Go Go.RowKit
set_option linter.unusedVariables false

def apS : ByteArray := ⟨#[97, 112]⟩
/-- what is wrong with a knot's form -/
def fmOne (t : Tm) : Bool := t.args.isEmpty || (decide (t.name = apS) && decide (t.args.length = 2))
mutual
def Tm.fm : Tm → Bool
  | .mk n xs => fmOne (.mk n xs) && Tm.fms xs
def Tm.fms : List Tm → Bool
  | [] => true
  | t :: ts => t.fm && Tm.fms ts
end
theorem Tm.fm_eq (t : Tm) : t.fm = (fmOne t && Tm.fms t.args) := by cases t; rfl
theorem Tm.fms_append (xs ys : List Tm) : Tm.fms (xs ++ ys) = (Tm.fms xs && Tm.fms ys) := by
  induction xs with
  | nil => simp [Tm.fms]
  | cons x xs ih => simp [Tm.fms, ih, Bool.and_assoc]
theorem Tm.fms_iff {xs : List Tm} : Tm.fms xs = true ↔ ∀ t ∈ xs, t.fm = true := by
  induction xs with
  | nil => simp [Tm.fms]
  | cons x xs ih => simp [Tm.fms, ih]
mutual
theorem Tm.fm_knots : ∀ t : Tm, t.fm = t.knots.all fmOne
  | .mk n xs => by rw [Tm.fm, Tm.knots, List.all_cons, Tm.fms_knots xs]
theorem Tm.fms_knots : ∀ xs : List Tm, Tm.fms xs = (Tm.knotsL xs).all fmOne
  | [] => rfl
  | t :: ts => by rw [Tm.fms, Tm.knotsL, List.all_append, Tm.fm_knots t, Tm.fms_knots ts]
end
/-- A term of that form is a leaf, or one put to another. -/
theorem Tm.fm_cases {t : Tm} (h : t.fm = true) : t.args = [] ∨ ∃ f x, t.name = apS ∧ t.args = [f, x] ∧ f.fm = true ∧ x.fm = true := by
  rw [Tm.fm_eq, Bool.and_eq_true] at h
  obtain ⟨h1, h2⟩ := h
  unfold fmOne at h1
  rw [Bool.or_eq_true, Bool.and_eq_true] at h1
  rcases h1 with h1 | ⟨h1, h3⟩
  · exact Or.inl (by simpa using h1)
  · have h3 : t.args.length = 2 := by simpa using h3
    match hx : t.args, h3 with
    | [f, x], _ =>
      rw [hx] at h2
      have := Tm.fms_iff.1 h2
      exact Or.inr ⟨f, x, by simpa using h1, rfl, this f (by simp), this x (by simp)⟩
def ap2 (f x : Tm) : Tm := .mk apS [f, x]
theorem ap2_fm {f x : Tm} (hf : f.fm = true) (hx : x.fm = true) : (ap2 f x).fm = true := by
  simp [ap2, Tm.fm, fmOne, Tm.fms, hf, hx, Tm.name_mk, Tm.args_mk]
theorem ap2_size (f x : Tm) : (ap2 f x).size = 1 + f.size + x.size := by
  simp only [ap2, Tm.size, Tm.sizes]
  omega

/-! ### rows -/
mutual
def Tm.hd : Tm → Tm
  | .mk n xs => match Tm.hdL xs with | some h => h | none => .mk n xs
def Tm.hdL : List Tm → Option Tm
  | [] => none
  | f :: _ => some f.hd
end
mutual
def Tm.rw_ : Tm → List Tm
  | .mk n xs => match Tm.rwL xs, xs with
    | some l, _ :: x :: _ => l ++ [x]
    | _, _ => []
def Tm.rwL : List Tm → Option (List Tm)
  | [] => none
  | f :: _ => some f.rw_
end
theorem Tm.hd_leaf {t : Tm} (h : t.args = []) : t.hd = t := by
  cases t
  rw [Tm.args_mk] at h
  subst h
  rfl
theorem Tm.hd_ap {t f x : Tm} (h : t.args = [f, x]) : t.hd = f.hd := by
  cases t
  rw [Tm.args_mk] at h
  subst h
  rw [Tm.hd, Tm.hdL]
theorem Tm.rw_leaf {t : Tm} (h : t.args = []) : t.rw_ = [] := by
  cases t
  rw [Tm.args_mk] at h
  subst h
  rfl
theorem Tm.rw_ap {t f x : Tm} (h : t.args = [f, x]) : t.rw_ = f.rw_ ++ [x] := by
  cases t
  rw [Tm.args_mk] at h
  subst h
  simp only [Tm.rw_, Tm.rwL]
def aps (h : Tm) (l : List Tm) : Tm := l.foldl ap2 h
theorem Tm.row_fm : ∀ (N : Nat) (t : Tm), SizeOf.sizeOf t < N → t.fm = true → t.hd.args = [] ∧ (∀ x ∈ t.rw_, x.fm = true) ∧ t.size = t.hd.size + Tm.sizes t.rw_ + t.rw_.length ∧ aps t.hd t.rw_ = t := by
  intro N
  induction N with
  | zero => intro t h; omega
  | succ N ih =>
    intro t hN h
    rcases Tm.fm_cases h with ha | ⟨f, x, hn, ha, hf, hx⟩
    · rw [Tm.hd_leaf ha, Tm.rw_leaf ha]
      refine ⟨ha, fun x hx => by simp at hx, by simp [Tm.sizes], rfl⟩
    · have hlt : SizeOf.sizeOf f < SizeOf.sizeOf t := Tm.lt_of_arg (by rw [ha]; simp)
      obtain ⟨a1, a2, a3, a4⟩ := ih f (by omega) hf
      rw [Tm.hd_ap ha, Tm.rw_ap ha]
      refine ⟨a1, fun y hy => ?_, ?_, ?_⟩
      · rcases List.mem_append.1 hy with hy | hy
        · exact a2 y hy
        · have : y = x := by simpa using hy
          subst this
          exact hx
      · rw [Tm.size_eq t, ha, Tm.sizes_append, List.length_append]
        simp only [Tm.sizes, List.length_cons, List.length_nil]
        omega
      · unfold aps at a4 ⊢
        rw [List.foldl_append, a4]
        cases t
        rw [Tm.args_mk] at ha
        rw [Tm.name_mk] at hn
        subst ha
        subst hn
        rfl
theorem Tm.hd_noargs {t : Tm} (h : t.fm = true) : t.hd.args = [] := (Tm.row_fm _ t (Nat.lt_succ_self _) h).1
theorem Tm.rw_fm {t : Tm} (h : t.fm = true) : ∀ x ∈ t.rw_, x.fm = true := (Tm.row_fm _ t (Nat.lt_succ_self _) h).2.1
theorem Tm.rw_size {t : Tm} (h : t.fm = true) : t.size = t.hd.size + Tm.sizes t.rw_ + t.rw_.length := (Tm.row_fm _ t (Nat.lt_succ_self _) h).2.2.1
theorem aps_fm : ∀ {l : List Tm} {h : Tm}, h.fm = true → (∀ x ∈ l, x.fm = true) → (aps h l).fm = true
  | [], h, hh, _ => hh
  | x :: l, h, hh, hl => aps_fm (l := l) (ap2_fm hh (hl x (by simp))) fun y hy => hl y (by simp [hy])
theorem aps_size : ∀ (l : List Tm) (h : Tm), (aps h l).size = h.size + Tm.sizes l + l.length
  | [], h => by simp [aps, Tm.sizes]
  | x :: l, h => by
    have := aps_size l (ap2 h x)
    rw [ap2_size] at this
    show (aps (ap2 h x) l).size = _
    rw [this, Tm.sizes, List.length_cons]
    omega
theorem aps_snoc (h : Tm) (l : List Tm) (x : Tm) : aps h (l ++ [x]) = ap2 (aps h l) x := by simp [aps]
theorem leaf_fm {h : Tm} (ha : h.args = []) : h.fm = true := by
  rw [Tm.fm_eq, ha]
  simp [fmOne, ha, Tm.fms]

/-! ### one step -/
def iS : ByteArray := ⟨#[105]⟩
def kS : ByteArray := ⟨#[107]⟩
def sS : ByteArray := ⟨#[115]⟩
/-- What a row's front becomes, and how many it takes. -/
def redOf (n : ByteArray) (l : List Tm) : Option (Tm × Nat) :=
  if n = iS then (match l with | x :: _ => some (x, 1) | _ => none)
  else if n = kS then (match l with | x :: _ :: _ => some (x, 2) | _ => none)
  else if n = sS then (match l with | x :: y :: z :: _ => some (ap2 (ap2 x z) (ap2 y z), 3) | _ => none)
  else none
def firstBy (f : Tm → Option Tm) : List Tm → Option (Nat × Tm)
  | [] => none
  | t :: ts => match f t with
    | some x => some (0, x)
    | none => (firstBy f ts).map fun p => (p.1 + 1, p.2)
theorem firstBy_congr {f g : Tm → Option Tm} : ∀ {l : List Tm}, (∀ x ∈ l, f x = g x) → firstBy f l = firstBy g l
  | [], _ => rfl
  | t :: ts, h => by
    rw [firstBy, firstBy, h t (by simp), firstBy_congr (l := ts) fun x hx => h x (by simp [hx])]
theorem firstBy_none {f : Tm → Option Tm} {l : List Tm} {k : Nat} {a : Tm} (ha : l[k]? = some a) (h : firstBy f (l.take k) = none) (hn : f a = none) : firstBy f (l.take (k + 1)) = none := by
  induction l generalizing k with
  | nil => simp at ha
  | cons x xs ih =>
    cases k with
    | zero =>
      have : x = a := by simpa using ha
      subst this
      simp [firstBy, hn]
    | succ k =>
      rw [List.take_succ_cons, firstBy] at h ⊢
      split at h
      · cases h
      · rename_i hx
        have h2 : firstBy f (xs.take k) = none := by simpa using h
        rw [ih (by simpa using ha) h2]
        rfl
theorem firstBy_some {f : Tm → Option Tm} {l : List Tm} {k : Nat} {a y : Tm} (ha : l[k]? = some a) (h : firstBy f (l.take k) = none) (hy : f a = some y) : firstBy f l = some (k, y) := by
  induction l generalizing k with
  | nil => simp at ha
  | cons x xs ih =>
    cases k with
    | zero =>
      have : x = a := by simpa using ha
      subst this
      simp [firstBy, hy]
    | succ k =>
      rw [List.take_succ_cons, firstBy] at h
      split at h
      · cases h
      · rename_i hx
        have h2 : firstBy f (xs.take k) = none := by simpa using h
        rw [firstBy, hx, ih (by simpa using ha) h2]
        rfl
theorem firstBy_get {f : Tm → Option Tm} : ∀ {l : List Tm} {i : Nat} {y : Tm}, firstBy f l = some (i, y) → ∃ a, l[i]? = some a ∧ f a = some y
  | [], _, _, h => by cases h
  | t :: ts, i, y, h => by
    rw [firstBy] at h
    split at h
    · rename_i x hx
      cases h
      exact ⟨t, rfl, hx⟩
    · rw [Option.map_eq_some_iff] at h
      obtain ⟨⟨j, z⟩, h1, h2⟩ := h
      cases h2
      obtain ⟨a, a1, a2⟩ := firstBy_get h1
      exact ⟨a, by simpa using a1, a2⟩
def Tm.stepF : Nat → Tm → Option Tm
  | 0, _ => none
  | k + 1, t => match redOf t.hd.name t.rw_ with
    | some (y, u) => some (aps y (t.rw_.drop u))
    | none => (firstBy (Tm.stepF k) t.rw_).map fun p => aps t.hd (t.rw_.set p.1 p.2)
theorem Tm.rw_lt {t x : Tm} (h : t.fm = true) (hx : x ∈ t.rw_) : x.size < t.size := by
  have h1 := Tm.rw_size h
  have h2 := Tm.size_mem hx
  have h3 := Tm.size_pos t.hd
  omega
theorem Tm.stepF_fuel : ∀ (k m : Nat) (t : Tm), t.fm = true → t.size ≤ k → t.size ≤ m → Tm.stepF k t = Tm.stepF m t := by
  intro k
  induction k with
  | zero => intro m t _ h; have := Tm.size_pos t; omega
  | succ k ih =>
    intro m t hf h1 h2
    cases m with
    | zero => have := Tm.size_pos t; omega
    | succ m =>
      rw [Tm.stepF, Tm.stepF, firstBy_congr (g := Tm.stepF m) fun x hx => ih m x (Tm.rw_fm hf x hx) (by have := Tm.rw_lt hf hx; omega) (by have := Tm.rw_lt hf hx; omega)]
def Tm.step (t : Tm) : Option Tm := Tm.stepF t.size t
theorem Tm.step_red {t y : Tm} {u : Nat} (h : redOf t.hd.name t.rw_ = some (y, u)) : t.step = some (aps y (t.rw_.drop u)) := by
  unfold Tm.step
  have := Tm.size_pos t
  obtain ⟨n, hn⟩ : ∃ n, t.size = n + 1 := ⟨t.size - 1, by omega⟩
  rw [hn, Tm.stepF, h]
theorem Tm.step_in {t : Tm} (hf : t.fm = true) (h : redOf t.hd.name t.rw_ = none) : t.step = (firstBy Tm.step t.rw_).map fun p => aps t.hd (t.rw_.set p.1 p.2) := by
  unfold Tm.step
  have := Tm.size_pos t
  obtain ⟨n, hn⟩ : ∃ n, t.size = n + 1 := ⟨t.size - 1, by omega⟩
  rw [hn, Tm.stepF, h]
  simp only
  rw [firstBy_congr (g := fun t => Tm.stepF t.size t) fun x hx => Tm.stepF_fuel n x.size x (Tm.rw_fm hf x hx) (by have := Tm.rw_lt hf hx; omega) (Nat.le_refl _)]
theorem redOf_some {n : ByteArray} {l : List Tm} {y : Tm} {u : Nat} (h : redOf n l = some (y, u)) : (n = iS ∧ u = 1 ∧ ∃ r, l = y :: r) ∨ (n = kS ∧ u = 2 ∧ ∃ a r, l = y :: a :: r) ∨ (n = sS ∧ u = 3 ∧ ∃ a b c r, l = a :: b :: c :: r ∧ y = ap2 (ap2 a c) (ap2 b c)) := by
  unfold redOf at h
  split at h
  · rename_i h1
    split at h
    · cases h; exact Or.inl ⟨h1, rfl, _, rfl⟩
    · cases h
  · split at h
    · rename_i h1
      split at h
      · cases h; exact Or.inr (Or.inl ⟨h1, rfl, _, _, rfl⟩)
      · cases h
    · split at h
      · rename_i h1
        split at h
        · cases h; exact Or.inr (Or.inr ⟨h1, rfl, _, _, _, _, rfl, rfl⟩)
        · cases h
      · cases h
theorem drop_fm {l : List Tm} {u : Nat} (h : ∀ x ∈ l, x.fm = true) : ∀ x ∈ l.drop u, x.fm = true := fun x hx => h x (List.mem_of_mem_drop hx)
theorem Tm.sizes_set : ∀ {l : List Tm} {i : Nat} {a y : Tm}, l[i]? = some a → Tm.sizes (l.set i y) + a.size = Tm.sizes l + y.size
  | [], i, _, _, h => by simp at h
  | x :: xs, 0, a, y, h => by
    have : x = a := by simpa using h
    subst this
    simp only [List.set_cons_zero, Tm.sizes]
    omega
  | x :: xs, i + 1, a, y, h => by
    have := Tm.sizes_set (l := xs) (i := i) (a := a) (y := y) (by simpa using h)
    simp only [List.set_cons_succ, Tm.sizes]
    omega
theorem Tm.step_all : ∀ (N : Nat) (t y : Tm), t.size < N → t.fm = true → t.step = some y → y.fm = true ∧ y.size ≤ 2 * t.size := by
  intro N
  induction N with
  | zero => intro t y h; omega
  | succ N ih =>
    intro t y hN hf hy
    have hsz := Tm.rw_size hf
    have hrf := Tm.rw_fm hf
    have hh := Tm.size_pos t.hd
    cases hr : redOf t.hd.name t.rw_ with
    | some p =>
      obtain ⟨z, u⟩ := p
      rw [Tm.step_red hr] at hy
      cases hy
      rw [aps_size]
      rcases redOf_some hr with ⟨_, rfl, r, hl⟩ | ⟨_, rfl, a, r, hl⟩ | ⟨_, rfl, a, b, c, r, hl, rfl⟩
      · rw [hl] at hsz hrf ⊢
        refine ⟨aps_fm (hrf z (by simp)) (fun x hx => hrf x (by simp at hx; simp [hx])), ?_⟩
        simp only [Tm.sizes, List.length_cons, List.drop_succ_cons, List.drop_zero] at hsz ⊢
        omega
      · rw [hl] at hsz hrf ⊢
        refine ⟨aps_fm (hrf z (by simp)) (fun x hx => hrf x (by simp at hx; simp [hx])), ?_⟩
        simp only [Tm.sizes, List.length_cons, List.drop_succ_cons, List.drop_zero] at hsz ⊢
        omega
      · rw [hl] at hsz hrf ⊢
        refine ⟨aps_fm (ap2_fm (ap2_fm (hrf a (by simp)) (hrf c (by simp))) (ap2_fm (hrf b (by simp)) (hrf c (by simp)))) (fun x hx => hrf x (by simp at hx; simp [hx])), ?_⟩
        simp only [Tm.sizes, List.length_cons, List.drop_succ_cons, List.drop_zero, ap2_size] at hsz ⊢
        omega
    | none =>
      rw [Tm.step_in hf hr, Option.map_eq_some_iff] at hy
      obtain ⟨⟨i, z⟩, h1, rfl⟩ := hy
      obtain ⟨a, a1, a2⟩ := firstBy_get h1
      have ham : a ∈ t.rw_ := List.mem_of_getElem? a1
      obtain ⟨b1, b2⟩ := ih a z (by have := Tm.rw_lt hf ham; omega) (hrf a ham) a2
      refine ⟨aps_fm (leaf_fm (Tm.hd_noargs hf)) (fun x hx => ?_), ?_⟩
      · rcases List.mem_or_eq_of_mem_set hx with hx | rfl
        · exact hrf x hx
        · exact b1
      · rw [aps_size, List.length_set]
        have h2 := Tm.sizes_set (y := z) a1
        have h3 := Tm.size_mem ham
        simp only
        omega

/-! ### steps, till there is none -/
def Tm.run : Nat → Int → Tm → Tm × Int × Int
  | left, n, t => match t.step with
    | none => (t, n, 0)
    | some x => match left with
      | 0 => (.mk ⟨#[]⟩ [], 0, 9)
      | left + 1 => if 2000 < x.size then (.mk ⟨#[]⟩ [], 0, 8) else Tm.run left (n + 1) x
theorem Tm.run_none {left : Nat} {n : Int} {t : Tm} (h : t.step = none) : Tm.run left n t = (t, n, 0) := by
  cases left <;> (rw [Tm.run]; simp only [h])
theorem Tm.run_zero {n : Int} {t x : Tm} (h : t.step = some x) : Tm.run 0 n t = (.mk ⟨#[]⟩ [], 0, 9) := by rw [Tm.run]; simp only [h]
theorem Tm.run_succ {left : Nat} {n : Int} {t x : Tm} (h : t.step = some x) : Tm.run (left + 1) n t = if 2000 < x.size then (.mk ⟨#[]⟩ [], 0, 8) else Tm.run left (n + 1) x := by rw [Tm.run]; simp only [h]
end Go.Proofs.Ytelmgldeghmkbaa
