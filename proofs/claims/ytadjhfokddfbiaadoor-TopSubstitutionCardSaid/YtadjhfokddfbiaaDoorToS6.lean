/-
  Part 6 of the texts: PLam; PFrom; PRed; PRed2; PTo; PLShow; PLSubst; IrLam; BLam; BLamMv; BLamPut; IrRed; BRed; IrCon; BCon; IrRaw; BRawL. Conditions: none.
-/
import Derived.Test.YtadjhfokddfbiaaDoorToS5
import Derived.Lib.Atoi
import Derived.Lib.AtoiBound
import Derived.Lib.ItoaNum
namespace Go.Proofs.YtadjhfokddfbiaaDoor
open Go Go.RowKit
set_option linter.unusedVariables false
inductive Lm where
  | mk (kind idx : Int) (subs : List Lm)
def Lm.kind : Lm → Int | .mk k _ _ => k
def Lm.idx : Lm → Int | .mk _ i _ => i
def Lm.subs : Lm → List Lm | .mk _ _ xs => xs
theorem Lm.kind_mk (k i : Int) (xs : List Lm) : (Lm.mk k i xs).kind = k := rfl
theorem Lm.idx_mk (k i : Int) (xs : List Lm) : (Lm.mk k i xs).idx = i := rfl
theorem Lm.subs_mk (k i : Int) (xs : List Lm) : (Lm.mk k i xs).subs = xs := rfl
mutual
def encL : Lm → List SV
  | .mk k i xs => [.int .i64 k, .int .i64 i, .list (encLs xs)]
def encLs : List Lm → List (List SV)
  | [] => []
  | t :: ts => encL t :: encLs ts
end
theorem encLs_eq : ∀ xs : List Lm, encLs xs = xs.map encL
  | [] => rfl
  | t :: ts => by rw [encLs, encLs_eq ts]; rfl
theorem encL_eq (t : Lm) : encL t = [.int .i64 t.kind, .int .i64 t.idx, .list (t.subs.map encL)] := by
  cases t
  rw [encL, encLs_eq]
  rfl
theorem len_encL (t : Lm) : (encL t).length = 3 := by rw [encL_eq]; rfl
instance : Lens encL 3 := ⟨len_encL⟩
theorem lens_encL {ts : List Lm} : ∀ x ∈ ts.map encL, x.length = 3 := by
  intro x hx
  obtain ⟨a, _, rfl⟩ := List.mem_map.1 hx
  exact len_encL a
abbrev aLm (t : Lm) : AV := .agg [.st (.int .i64 t.kind), .st (.int .i64 t.idx), .st (.list (t.subs.map encL))]
abbrev aLms (l : List Lm) : AV := .one (.st (.list (l.map encL)))
theorem known_lm {S : AStore} {t : Lm} (h : (aLm t).known S) : (-9223372036854775808 ≤ t.kind ∧ t.kind ≤ 9223372036854775807) ∧ (-9223372036854775808 ≤ t.idx ∧ t.idx ≤ 9223372036854775807) ∧ t.subs.length ≤ 9223372036854775807 := by
  have h1 : inR .i64 t.kind := by
    have := h (.st (.int .i64 t.kind)) (by simp)
    simpa [AC.known, SV.known] using this
  have h2 : inR .i64 t.idx := by
    have := h (.st (.int .i64 t.idx)) (by simp)
    simpa [AC.known, SV.known] using this
  have h3 : t.subs.length ≤ maxLen := by
    have := h (.st (.list (t.subs.map encL))) (by simp)
    simp only [AC.known, SV.known, List.length_map] at this
    exact this.1
  rw [inR_i64] at h1 h2
  rw [maxLen_eq] at h3
  exact ⟨h1, h2, h3⟩
theorem Lm.lt_of_mem {a : Lm} {k i : Int} {xs : List Lm} (h : a ∈ xs) : SizeOf.sizeOf a < SizeOf.sizeOf (Lm.mk k i xs) := by
  have := List.sizeOf_lt_of_mem h
  simp only [Lm.mk.sizeOf_spec]
  omega
theorem Lm.lt_of_sub {a t : Lm} (h : a ∈ t.subs) : SizeOf.sizeOf a < SizeOf.sizeOf t := by
  cases t
  exact Lm.lt_of_mem h
attribute [go_sem] Lm.kind_mk Lm.idx_mk Lm.subs_mk encL_eq
mutual
def Lm.size : Lm → Nat
  | .mk _ _ xs => 1 + Lm.sizes xs
def Lm.sizes : List Lm → Nat
  | [] => 0
  | t :: ts => t.size + Lm.sizes ts
end
theorem Lm.sizes_append (xs ys : List Lm) : Lm.sizes (xs ++ ys) = Lm.sizes xs + Lm.sizes ys := by
  induction xs with
  | nil => simp [Lm.sizes]
  | cons t ts ih => simp only [List.cons_append, Lm.sizes, ih]; omega
theorem Lm.sizes_take {xs : List Lm} {k : Nat} {a : Lm} (h : xs[k]? = some a) : Lm.sizes (xs.take (k+1)) = Lm.sizes (xs.take k) + a.size := by
  rw [take_snoc h, Lm.sizes_append]; simp [Lm.sizes]
theorem Lm.sizes_take_le (xs : List Lm) (k : Nat)  : Lm.sizes (xs.take k) ≤ Lm.sizes xs := by
  have := Lm.sizes_append (xs.take k) (xs.drop k)
  rw [List.take_append_drop] at this
  omega
theorem Lm.size_eq (t : Lm) : t.size = 1 + Lm.sizes t.subs := by cases t; rfl
theorem Lm.size_pos (t : Lm) : 1 ≤ t.size := by rw [Lm.size_eq]; omega
theorem Lm.size_mem {a : Lm} {xs : List Lm} (h : a ∈ xs) : a.size ≤ Lm.sizes xs := by
  induction xs with
  | nil => simp at h
  | cons t ts ih =>
    rcases List.mem_cons.1 h with rfl | h
    · simp only [Lm.sizes]; omega
    · have := ih h; simp only [Lm.sizes]; omega
theorem Lm.size_sub {a t : Lm} (h : a ∈ t.subs) : a.size + 1 ≤ t.size := by
  have := Lm.size_mem h
  rw [Lm.size_eq t]
  omega
theorem Lm.length_le (xs : List Lm) : xs.length ≤ Lm.sizes xs := by
  induction xs with
  | nil => simp [Lm.sizes]
  | cons t ts ih => have := Lm.size_pos t; simp only [Lm.sizes, List.length_cons]; omega
def nSubs (k : Int) : Int := if k = 2 then 1 else if k = 3 then 2 else 0
def mostIdx (k u m : Int) : Int := if k = 1 then u else if k = 4 then 40 else if k = 5 then m else 1
def under (k u : Int) : Int := if k = 2 then u + 1 else u
mutual
def Lm.chk (m : Int) : Lm → Int → Int
  | .mk k i xs, u => if 1 ≤ k ∧ k ≤ 5 ∧ (xs.length : Int) = nSubs k then (if 0 ≤ i ∧ i < mostIdx k u m then Lm.chks m xs (under k u) else 15) else 2
def Lm.chks (m : Int) : List Lm → Int → Int
  | [], _ => 0
  | t :: ts, u => if t.chk m u = 0 then Lm.chks m ts u else t.chk m u
end
theorem Lm.chk_eq (m : Int) (t : Lm) (u : Int) : t.chk m u = if 1 ≤ t.kind ∧ t.kind ≤ 5 ∧ (t.subs.length : Int) = nSubs t.kind then (if 0 ≤ t.idx ∧ t.idx < mostIdx t.kind u m then Lm.chks m t.subs (under t.kind u) else 15) else 2 := by cases t; rfl
theorem Lm.chks_append (m u : Int) (xs ys : List Lm) : Lm.chks m (xs ++ ys) u = if Lm.chks m xs u = 0 then Lm.chks m ys u else Lm.chks m xs u := by
  induction xs with
  | nil => simp [Lm.chks]
  | cons t ts ih =>
    simp only [List.cons_append, Lm.chks]
    by_cases h : t.chk m u = 0
    · simp only [h, if_true, ih]
    · simp only [h, if_false]
theorem Lm.chks_take {m u : Int} {xs : List Lm} {k : Nat} {a : Lm} (h : xs[k]? = some a) (h0 : Lm.chks m (xs.take k) u = 0) : Lm.chks m (xs.take (k+1)) u = a.chk m u := by
  rw [take_snoc h, Lm.chks_append, if_pos h0]
  simp only [Lm.chks]
  split <;> simp_all
theorem Lm.chks_bad {m u : Int} {xs : List Lm} {k : Nat} (h0 : Lm.chks m (xs.take k) u ≠ 0) : Lm.chks m xs u = Lm.chks m (xs.take k) u := by
  have := Lm.chks_append m u (xs.take k) (xs.drop k)
  rw [List.take_append_drop, if_neg h0] at this
  exact this
mutual
def Lm.good (b : Int) : Lm → Prop
  | .mk k i xs => (k = 1 → xs = []) ∧ 0 ≤ i ∧ i ≤ b ∧ Lm.goods b xs
def Lm.goods (b : Int) : List Lm → Prop
  | [] => True
  | t :: ts => t.good b ∧ Lm.goods b ts
end
theorem Lm.good_eq (b : Int) (t : Lm) : t.good b ↔ ((t.kind = 1 → t.subs = []) ∧ 0 ≤ t.idx ∧ t.idx ≤ b ∧ Lm.goods b t.subs) := by cases t; exact Iff.rfl
theorem Lm.goods_mem {b : Int} {xs : List Lm} (h : Lm.goods b xs) : ∀ t ∈ xs, t.good b := by
  induction xs with
  | nil => intro t ht; simp at ht
  | cons x xs ih =>
    intro t ht
    rcases List.mem_cons.1 ht with rfl | ht
    · exact h.1
    · exact ih h.2 t ht
theorem Lm.good_sub {b : Int} {t a : Lm} (h : t.good b) (ha : a ∈ t.subs) : a.good b := Lm.goods_mem ((Lm.good_eq b t).1 h).2.2.2 a ha
mutual
theorem Lm.good_chk {m : Int} (h1 : m ≤ 40) : ∀ (t : Lm) (u b : Int), 0 ≤ u → u + t.size ≤ b → 40 ≤ b → t.chk m u = 0 → t.good b
  | .mk k i xs, u, b, hu, hb, hb4, h => by
    rw [Lm.chk] at h
    rw [Lm.size] at hb
    split at h
    · rename_i hk
      split at h
      · rename_i hi
        refine ⟨fun e => ?_, hi.1, ?_, ?_⟩
        · subst e
          have := hk.2.2
          simp [nSubs] at this
          exact this
        · have := hi.2
          simp only [mostIdx] at this
          split at this
          · omega
          · split at this
            · omega
            · split at this <;> omega
        · have hu2 : under k u ≤ u + 1 ∧ 0 ≤ under k u := by unfold under; split <;> omega
          exact Lm.goods_chk h1 xs (under k u) b hu2.2 (by omega) hb4 h
      · omega
    · omega
theorem Lm.goods_chk {m : Int} (h1 : m ≤ 40) : ∀ (xs : List Lm) (u b : Int), 0 ≤ u → u + Lm.sizes xs ≤ b → 40 ≤ b → Lm.chks m xs u = 0 → Lm.goods b xs
  | [], _, _, _, _, _, _ => trivial
  | t :: ts, u, b, hu, hb, hb4, h => by
    rw [Lm.chks] at h
    rw [Lm.sizes] at hb
    split at h
    · rename_i e
      exact ⟨Lm.good_chk h1 t u b hu (by omega) hb4 e, Lm.goods_chk h1 ts u b hu (by omega) hb4 h⟩
    · rename_i e
      exact absurd h e
end
mutual
def Lm.mv (by_ : Int) : Int → Lm → Lm
  | d, .mk k i xs => .mk k (if k = 1 ∧ d ≤ i then i + by_ else i) (Lm.mvs by_ (under k d) xs)
def Lm.mvs (by_ : Int) : Int → List Lm → List Lm
  | _, [] => []
  | d, t :: ts => Lm.mv by_ d t :: Lm.mvs by_ d ts
end
theorem Lm.mvs_eq (b d : Int) : ∀ xs : List Lm, Lm.mvs b d xs = xs.map (Lm.mv b d)
  | [] => rfl
  | t :: ts => by rw [Lm.mvs, Lm.mvs_eq b d ts]; rfl
theorem Lm.mv_eq (b d : Int) (t : Lm) : Lm.mv b d t = .mk t.kind (if t.kind = 1 ∧ d ≤ t.idx then t.idx + b else t.idx) (t.subs.map (Lm.mv b (under t.kind d))) := by
  cases t
  rw [Lm.mv, Lm.mvs_eq]
  rfl
mutual
theorem Lm.size_mv (b : Int) : ∀ (d : Int) (t : Lm), (Lm.mv b d t).size = t.size
  | d, .mk k i xs => by rw [Lm.mv, Lm.size, Lm.size, Lm.sizes_mv b _ xs]
theorem Lm.sizes_mv (b : Int) : ∀ (d : Int) (xs : List Lm), Lm.sizes (Lm.mvs b d xs) = Lm.sizes xs
  | _, [] => rfl
  | d, t :: ts => by rw [Lm.mvs, Lm.sizes, Lm.sizes, Lm.size_mv b d t, Lm.sizes_mv b d ts]
end
mutual
def Lm.put (x : Lm) : Int → Lm → Lm
  | d, .mk k i xs => if k = 1 then (if i = d then Lm.mv d 0 x else if d < i then .mk 1 (i - 1) [] else .mk 1 i []) else .mk k i (Lm.puts x (under k d) xs)
def Lm.puts (x : Lm) : Int → List Lm → List Lm
  | _, [] => []
  | d, t :: ts => Lm.put x d t :: Lm.puts x d ts
end
theorem Lm.puts_eq (x : Lm) (d : Int) : ∀ xs : List Lm, Lm.puts x d xs = xs.map (Lm.put x d)
  | [] => rfl
  | t :: ts => by rw [Lm.puts, Lm.puts_eq x d ts]; rfl
theorem Lm.put_eq (x : Lm) (d : Int) (t : Lm) : Lm.put x d t = if t.kind = 1 then (if t.idx = d then Lm.mv d 0 x else if d < t.idx then .mk 1 (t.idx - 1) [] else .mk 1 t.idx []) else .mk t.kind t.idx (t.subs.map (Lm.put x (under t.kind d))) := by
  cases t
  rw [Lm.put, Lm.puts_eq]
  rfl
theorem mul_succ_le {a b c : Nat} (h : a ≤ b * c) (hc : 1 ≤ c) : 1 + a ≤ (1 + b) * c := by
  rw [Nat.add_mul, Nat.one_mul]
  omega
mutual
theorem Lm.size_put (x : Lm) : ∀ (d : Int) (t : Lm), (Lm.put x d t).size ≤ t.size * x.size
  | d, .mk k i xs => by
    have hx := Lm.size_pos x
    have h1 : 1 ≤ (1 + Lm.sizes xs) * x.size := by
      rw [Nat.add_mul]; omega
    have h2 : x.size ≤ (1 + Lm.sizes xs) * x.size := by
      rw [Nat.add_mul]; omega
    rw [Lm.put, Lm.size]
    split
    · split
      · rw [Lm.size_mv]; exact h2
      · split
        · simpa only [Lm.size, Lm.sizes, Nat.add_zero] using h1
        · simpa only [Lm.size, Lm.sizes, Nat.add_zero] using h1
    · rw [Lm.size]
      exact mul_succ_le (Lm.sizes_put x _ xs) hx
theorem Lm.sizes_put (x : Lm) : ∀ (d : Int) (xs : List Lm), Lm.sizes (Lm.puts x d xs) ≤ Lm.sizes xs * x.size
  | _, [] => by simp [Lm.puts, Lm.sizes]
  | d, t :: ts => by
    have h1 := Lm.size_put x d t
    have h2 := Lm.sizes_put x d ts
    rw [Lm.puts, Lm.sizes, Lm.sizes, Nat.add_mul]
    omega
end
mutual
def Lm.same : Lm → Lm → Bool
  | .mk k i xs, .mk l j ys => decide (k = l) && decide (i = j) && Lm.sames xs ys
def Lm.sames : List Lm → List Lm → Bool
  | [], [] => true
  | x :: xs, y :: ys => x.same y && Lm.sames xs ys
  | [], _ :: _ => false
  | _ :: _, [] => false
end
def Lm.may (m u : Int) (t : Lm) : Int := if u < 0 ∨ 40 < u then 10 else if 200 < t.size then 3 else t.chk m u
theorem Lm.may_ok {m u : Int} {t : Lm} (h : Lm.may m u t = 0) : 0 ≤ u ∧ u ≤ 40 ∧ t.size ≤ 200 ∧ t.chk m u = 0 := by
  unfold Lm.may at h
  split at h
  · omega
  · split at h
    · omega
    · omega
def Lm.nil : Lm := .mk 0 0 []
mutual
def Lm.pure : Lm → Bool
  | .mk k _ xs => !decide (k = 4) && Lm.pures xs
def Lm.pures : List Lm → Bool
  | [] => true
  | t :: ts => t.pure && Lm.pures ts
end

def digit (n : Nat) : ByteArray := ⟨#[UInt8.ofNat (48 + n)]⟩
def dec2 (n : Nat) : ByteArray := if n < 10 then digit n else digit (n / 10) ++ digit (n % 10)

mutual
def Lm.wf : Lm → Prop
  | .mk k i xs => (1 ≤ k ∧ k ≤ 5 ∧ (xs.length : Int) = nSubs k) ∧ Lm.wfs xs
def Lm.wfs : List Lm → Prop
  | [] => True
  | t :: ts => t.wf ∧ Lm.wfs ts
end
theorem Lm.wf_eq (t : Lm) : t.wf ↔ ((1 ≤ t.kind ∧ t.kind ≤ 5 ∧ (t.subs.length : Int) = nSubs t.kind) ∧ Lm.wfs t.subs) := by cases t; exact Iff.rfl
theorem Lm.wfs_iff {xs : List Lm} : Lm.wfs xs ↔ ∀ t ∈ xs, t.wf := by
  induction xs with
  | nil => simp [Lm.wfs]
  | cons x xs ih => simp [Lm.wfs, ih]
theorem Lm.wf_sub {t a : Lm} (h : t.wf) (ha : a ∈ t.subs) : a.wf := Lm.wfs_iff.1 ((Lm.wf_eq t).1 h).2 a ha
mutual
theorem Lm.wf_chk {m : Int} : ∀ (t : Lm) (u : Int), t.chk m u = 0 → t.wf
  | .mk k i xs, u, h => by
    rw [Lm.chk] at h
    split at h
    · rename_i hk
      split at h
      · exact ⟨hk, Lm.wfs_chk xs _ h⟩
      · omega
    · omega
theorem Lm.wfs_chk {m : Int} : ∀ (xs : List Lm) (u : Int), Lm.chks m xs u = 0 → Lm.wfs xs
  | [], _, _ => trivial
  | t :: ts, u, h => by
    rw [Lm.chks] at h
    split at h
    · rename_i e
      exact ⟨Lm.wf_chk t u e, Lm.wfs_chk ts u h⟩
    · rename_i e
      exact absurd h e
end
mutual
theorem Lm.good_mono {b c : Int} (hbc : b ≤ c) : ∀ t : Lm, t.good b → t.good c
  | .mk k i xs, h => ⟨h.1, h.2.1, by have := h.2.2.1; omega, Lm.goods_mono hbc xs h.2.2.2⟩
theorem Lm.goods_mono {b c : Int} (hbc : b ≤ c) : ∀ xs : List Lm, Lm.goods b xs → Lm.goods c xs
  | [], _ => trivial
  | t :: ts, h => ⟨Lm.good_mono hbc t h.1, Lm.goods_mono hbc ts h.2⟩
end
theorem Lm.mvs_length (b d : Int) (xs : List Lm) : (Lm.mvs b d xs).length = xs.length := by rw [Lm.mvs_eq, List.length_map]
theorem Lm.puts_length (x : Lm) (d : Int) (xs : List Lm) : (Lm.puts x d xs).length = xs.length := by rw [Lm.puts_eq, List.length_map]
mutual
theorem Lm.wf_mv {b : Int} : ∀ (d : Int) (t : Lm), t.wf → (Lm.mv b d t).wf
  | d, .mk k i xs, h => ⟨by rw [Lm.mvs_length]; exact h.1, Lm.wfs_mv _ xs h.2⟩
theorem Lm.wfs_mv {b : Int} : ∀ (d : Int) (xs : List Lm), Lm.wfs xs → Lm.wfs (Lm.mvs b d xs)
  | _, [], _ => trivial
  | d, t :: ts, h => ⟨Lm.wf_mv d t h.1, Lm.wfs_mv d ts h.2⟩
end
mutual
theorem Lm.good_mv {b c : Int} (hb : 0 ≤ b) : ∀ (d : Int) (t : Lm), t.good c → (Lm.mv b d t).good (c + b)
  | d, .mk k i xs, h => by
    refine ⟨fun e => by rw [h.1 e]; rfl, ?_, ?_, Lm.goods_mv hb _ xs h.2.2.2⟩
    · have := h.2.1
      split <;> omega
    · have := h.2.2.1
      split <;> omega
theorem Lm.goods_mv {b c : Int} (hb : 0 ≤ b) : ∀ (d : Int) (xs : List Lm), Lm.goods c xs → Lm.goods (c + b) (Lm.mvs b d xs)
  | _, [], _ => trivial
  | d, t :: ts, h => ⟨Lm.good_mv hb d t h.1, Lm.goods_mv hb d ts h.2⟩
end
mutual
theorem Lm.mv_zero : ∀ (d : Int) (t : Lm), Lm.mv 0 d t = t
  | d, .mk k i xs => by rw [Lm.mv, Lm.mvs_zero]; simp
theorem Lm.mvs_zero : ∀ (d : Int) (xs : List Lm), Lm.mvs 0 d xs = xs
  | _, [] => rfl
  | d, t :: ts => by rw [Lm.mvs, Lm.mv_zero d t, Lm.mvs_zero d ts]
end
theorem under_le (k d : Int) : under k d ≤ d + 1 ∧ d ≤ under k d := by unfold under; split <;> omega
mutual
theorem Lm.wf_put {x : Lm} (hx : x.wf) : ∀ (d : Int) (t : Lm), t.wf → (Lm.put x d t).wf
  | d, .mk k i xs, h => by
    rw [Lm.put]
    split
    · split
      · exact Lm.wf_mv 0 x hx
      · split
        · exact ⟨⟨by decide, by decide, rfl⟩, trivial⟩
        · exact ⟨⟨by decide, by decide, rfl⟩, trivial⟩
    · exact ⟨by rw [Lm.puts_length]; exact h.1, Lm.wfs_put hx _ xs h.2⟩
theorem Lm.wfs_put {x : Lm} (hx : x.wf) : ∀ (d : Int) (xs : List Lm), Lm.wfs xs → Lm.wfs (Lm.puts x d xs)
  | _, [], _ => trivial
  | d, t :: ts, h => ⟨Lm.wf_put hx d t h.1, Lm.wfs_put hx d ts h.2⟩
end
mutual
theorem Lm.good_put {x : Lm} {b D : Int} (hx : x.good b) : ∀ (d : Int) (t : Lm), 0 ≤ d → d + t.size ≤ D → t.good b → (Lm.put x d t).good (b + D)
  | d, .mk k i xs, hd, hD, h => by
    rw [Lm.size] at hD
    have h2 := h.2.1
    have h3 := h.2.2.1
    rw [Lm.put]
    split
    · split
      · exact Lm.good_mono (by omega) _ (Lm.good_mv hd 0 x hx)
      · split
        · exact ⟨fun _ => rfl, by omega, by omega, trivial⟩
        · exact ⟨fun _ => rfl, by omega, by omega, trivial⟩
    · rename_i hk
      have hu := under_le k d
      exact ⟨fun e => absurd e hk, h2, by omega, Lm.goods_put hx _ xs (by omega) (by omega) h.2.2.2⟩
theorem Lm.goods_put {x : Lm} {b D : Int} (hx : x.good b) : ∀ (d : Int) (xs : List Lm), 0 ≤ d → d + Lm.sizes xs ≤ D → Lm.goods b xs → Lm.goods (b + D) (Lm.puts x d xs)
  | _, [], _, _, _ => trivial
  | d, t :: ts, hd, hD, h => by
    rw [Lm.sizes] at hD
    exact ⟨Lm.good_put hx d t hd (by omega) h.1, Lm.goods_put hx d ts hd (by omega) h.2⟩
end
def Lm.top (k : Int) (xs : List Lm) : Option Lm := match xs with
  | f :: x :: _ => if k = 3 ∧ f.kind = 2 then (match f.subs with | b :: _ => some (Lm.put x 0 b) | [] => none) else none
  | _ => none
mutual
def Lm.outer : Lm → Option Lm
  | .mk k i xs => match Lm.top k xs with
    | some y => some y
    | none => match Lm.outers xs with
      | some ys => some (.mk k i ys)
      | none => none
def Lm.outers : List Lm → Option (List Lm)
  | [] => none
  | t :: ts => match t.outer with
    | some x => some (x :: ts)
    | none => match Lm.outers ts with
      | some ys => some (t :: ys)
      | none => none
end
theorem Lm.outer_eq (t : Lm) : t.outer = match Lm.top t.kind t.subs with
    | some y => some y
    | none => match Lm.outers t.subs with
      | some ys => some (.mk t.kind t.idx ys)
      | none => none := by cases t; rw [Lm.outer]; rfl
theorem len_one {α : Type} {xs : List α} (h : (xs.length : Int) = 1) : ∃ a, xs = [a] := by
  match xs, h with
  | [a], _ => exact ⟨a, rfl⟩
  | [], h => simp at h
  | _ :: _ :: _, h => simp at h; omega
theorem len_two {α : Type} {xs : List α} (h : (xs.length : Int) = 2) : ∃ a b, xs = [a, b] := by
  match xs, h with
  | [a, b], _ => exact ⟨a, b, rfl⟩
  | [], h => simp at h
  | [_], h => simp at h
  | _ :: _ :: _ :: _, h => simp at h; omega
theorem Lm.subs1 {t : Lm} (h : t.wf) (hk : t.kind = 2) : ∃ a, t.subs = [a] := by
  have := ((Lm.wf_eq t).1 h).1.2.2
  rw [hk] at this
  exact len_one this
theorem Lm.subs2 {t : Lm} (h : t.wf) (hk : t.kind = 3) : ∃ a b, t.subs = [a, b] := by
  have := ((Lm.wf_eq t).1 h).1.2.2
  rw [hk] at this
  exact len_two this
theorem Lm.top_cases {t : Lm} (h : t.wf) : (∃ f x b, t.kind = 3 ∧ t.subs = [f, x] ∧ f.kind = 2 ∧ f.subs = [b] ∧ Lm.top t.kind t.subs = some (Lm.put x 0 b)) ∨ (Lm.top t.kind t.subs = none ∧ (t.kind = 3 → ∃ f x, t.subs = [f, x] ∧ ¬ f.kind = 2)) := by
  by_cases hk : t.kind = 3
  · obtain ⟨f, x, hfx⟩ := Lm.subs2 h hk
    by_cases hf : f.kind = 2
    · obtain ⟨b, hb⟩ := Lm.subs1 (Lm.wf_sub h (by rw [hfx]; simp)) hf
      exact Or.inl ⟨f, x, b, hk, hfx, hf, hb, by rw [hfx]; simp [Lm.top, hk, hf, hb]⟩
    · exact Or.inr ⟨by rw [hfx]; simp [Lm.top, hf], fun _ => ⟨f, x, hfx, hf⟩⟩
  · refine Or.inr ⟨?_, fun e => absurd e hk⟩
    unfold Lm.top
    split
    · rw [if_neg (fun h => hk h.1)]
    · rfl
theorem Lm.outers_none {xs : List Lm} {k : Nat} {a : Lm} (ha : xs[k]? = some a) (h : Lm.outers (xs.take k) = none) (hn : a.outer = none) : Lm.outers (xs.take (k + 1)) = none := by
  induction xs generalizing k with
  | nil => simp at ha
  | cons x xs ih =>
    cases k with
    | zero =>
      have : x = a := by simpa using ha
      subst this
      simp [Lm.outers, hn]
    | succ k =>
      rw [List.take_succ_cons, Lm.outers] at h ⊢
      split at h
      · cases h
      · rename_i hx
        split at h
        · cases h
        · rename_i h2
          rw [ih (by simpa using ha) h2]
theorem Lm.outers_some {xs : List Lm} {k : Nat} {a y : Lm} (ha : xs[k]? = some a) (h : Lm.outers (xs.take k) = none) (hy : a.outer = some y) : Lm.outers xs = some (xs.set k y) := by
  induction xs generalizing k with
  | nil => simp at ha
  | cons x xs ih =>
    cases k with
    | zero =>
      have : x = a := by simpa using ha
      subst this
      simp [Lm.outers, hy]
    | succ k =>
      rw [List.take_succ_cons, Lm.outers] at h
      split at h
      · cases h
      · rename_i hx
        split at h
        · cases h
        · rename_i h2
          rw [Lm.outers, hx, ih (by simpa using ha) h2]
          rfl
theorem Lm.outers_length : ∀ {xs ys : List Lm}, Lm.outers xs = some ys → ys.length = xs.length
  | [], ys, h => by cases h
  | t :: ts, ys, h => by
    rw [Lm.outers] at h
    split at h
    · cases h; rfl
    · split at h
      · rename_i h2
        cases h
        simp [Lm.outers_length h2]
      · cases h
theorem Lm.top_some {k : Int} {xs : List Lm} {y : Lm} (h : Lm.top k xs = some y) : ∃ f x r b q, xs = f :: x :: r ∧ f.subs = b :: q ∧ k = 3 ∧ f.kind = 2 ∧ y = Lm.put x 0 b := by
  unfold Lm.top at h
  split at h
  · rename_i f x r
    split at h
    · rename_i hk
      split at h
      · rename_i b q hb
        cases h
        exact ⟨f, x, r, b, q, rfl, hb, hk.1, hk.2, rfl⟩
      · cases h
    · cases h
  · cases h
mutual
theorem Lm.wf_outer : ∀ {t y : Lm}, t.wf → t.outer = some y → y.wf
  | .mk k i xs, y, hw, h => by
    rw [Lm.outer] at h
    split at h
    · rename_i z hz
      cases h
      obtain ⟨f, x, r, b, q, rfl, hb, _, _, rfl⟩ := Lm.top_some hz
      exact Lm.wf_put hw.2.2.1 0 b (Lm.wf_sub hw.2.1 (by rw [hb]; simp))
    · split at h
      · rename_i ys hys
        cases h
        exact ⟨by rw [Lm.outers_length hys]; exact hw.1, Lm.wfs_outers hw.2 hys⟩
      · cases h
theorem Lm.wfs_outers : ∀ {xs ys : List Lm}, Lm.wfs xs → Lm.outers xs = some ys → Lm.wfs ys
  | [], _, _, h => by cases h
  | t :: ts, ys, hw, h => by
    rw [Lm.outers] at h
    split at h
    · rename_i x hx
      cases h
      exact ⟨Lm.wf_outer hw.1 hx, hw.2⟩
    · split at h
      · rename_i zs hzs
        cases h
        exact ⟨hw.1, Lm.wfs_outers hw.2 hzs⟩
      · cases h
end
mutual
theorem Lm.good_outer {b D : Int} (hD : 0 ≤ D) : ∀ {t y : Lm}, t.size ≤ D → t.good b → t.outer = some y → y.good (b + D)
  | .mk k i xs, y, hs, hg, h => by
    rw [Lm.size] at hs
    rw [Lm.outer] at h
    split at h
    · rename_i z hz
      cases h
      obtain ⟨f, x, r, c, q, rfl, hb, _, _, rfl⟩ := Lm.top_some hz
      have h1 : c ∈ f.subs := by rw [hb]; simp
      have h2 := Lm.size_sub h1
      simp only [Lm.sizes] at hs
      exact Lm.good_put hg.2.2.2.2.1 0 c (by decide) (by omega) (Lm.good_sub hg.2.2.2.1 h1)
    · split at h
      · rename_i ys hys
        cases h
        have := hg.2.2.1
        refine ⟨fun e => ?_, hg.2.1, by omega, Lm.goods_outers hD (by omega) hg.2.2.2 hys⟩
        have h1 := Lm.outers_length hys
        rw [hg.1 e] at h1
        exact List.eq_nil_of_length_eq_zero (by simpa using h1)
      · cases h
theorem Lm.goods_outers {b D : Int} (hD : 0 ≤ D) : ∀ {xs ys : List Lm}, Lm.sizes xs ≤ D → Lm.goods b xs → Lm.outers xs = some ys → Lm.goods (b + D) ys
  | [], _, _, _, h => by cases h
  | t :: ts, ys, hs, hg, h => by
    rw [Lm.sizes] at hs
    rw [Lm.outers] at h
    split at h
    · rename_i x hx
      cases h
      exact ⟨Lm.good_outer hD (by omega) hg.1 hx, Lm.goods_mono (by omega) ts hg.2⟩
    · split at h
      · rename_i zs hzs
        cases h
        exact ⟨Lm.good_mono (by omega) t hg.1, Lm.goods_outers hD (by omega) hg.2 hzs⟩
      · cases h
end
theorem sq_step {a r x : Nat} (h : x ≤ a * a) : x + r ≤ (a + r) * (a + r) := by
  have h1 : (a + r) * (a + r) = a * a + a * r + (r * a + r * r) := by rw [Nat.add_mul, Nat.mul_add, Nat.mul_add]
  have h2 : r ≤ r * r := Nat.le_mul_self r
  rw [h1]
  omega
mutual
theorem Lm.size_outer : ∀ {t y : Lm}, t.outer = some y → y.size ≤ t.size * t.size
  | .mk k i xs, y, h => by
    rw [Lm.outer] at h
    rw [Lm.size]
    split at h
    · rename_i z hz
      cases h
      obtain ⟨f, x, r, c, q, rfl, hb, _, _, rfl⟩ := Lm.top_some hz
      have h1 : c ∈ f.subs := by rw [hb]; simp
      have h2 := Lm.size_sub h1
      refine Nat.le_trans (Lm.size_put x 0 c) ?_
      simp only [Lm.sizes]
      exact Nat.mul_le_mul (by omega) (by omega)
    · split at h
      · rename_i ys hys
        cases h
        rw [Lm.size]
        have := sq_step (r := 1) (Lm.sizes_outers hys)
        rw [Nat.add_comm 1, Nat.add_comm 1]
        exact this
      · cases h
theorem Lm.sizes_outers : ∀ {xs ys : List Lm}, Lm.outers xs = some ys → Lm.sizes ys ≤ Lm.sizes xs * Lm.sizes xs
  | [], _, h => by cases h
  | t :: ts, ys, h => by
    rw [Lm.outers] at h
    rw [Lm.sizes]
    split at h
    · rename_i x hx
      cases h
      rw [Lm.sizes]
      exact sq_step (Lm.size_outer hx)
    · split at h
      · rename_i zs hzs
        cases h
        rw [Lm.sizes, Nat.add_comm t.size, Nat.add_comm t.size]
        exact sq_step (Lm.sizes_outers hzs)
      · cases h
end
def Lm.run : Nat → Int → Lm → Lm × Int × Int
  | left, n, t => match t.outer with
    | none => (t, n, 0)
    | some x => match left with
      | 0 => (Lm.nil, 0, 9)
      | left + 1 => if 2000 < x.size then (Lm.nil, 0, 8) else Lm.run left (n + 1) x
theorem Lm.run_none {left : Nat} {n : Int} {t : Lm} (h : t.outer = none) : Lm.run left n t = (t, n, 0) := by
  cases left <;> (rw [Lm.run]; simp only [h])
theorem Lm.run_zero {n : Int} {t x : Lm} (h : t.outer = some x) : Lm.run 0 n t = (Lm.nil, 0, 9) := by rw [Lm.run]; simp only [h]
theorem Lm.run_succ {left : Nat} {n : Int} {t x : Lm} (h : t.outer = some x) : Lm.run (left + 1) n t = if 2000 < x.size then (Lm.nil, 0, 8) else Lm.run left (n + 1) x := by rw [Lm.run]; simp only [h]

mutual
def Lm.known (m : Int) : Lm → Prop
  | .mk k i xs => (k = 5 → 0 ≤ i ∧ i < m) ∧ Lm.knowns m xs
def Lm.knowns (m : Int) : List Lm → Prop
  | [] => True
  | t :: ts => t.known m ∧ Lm.knowns m ts
end
mutual
def Lm.fill (ws : List Lm) : Lm → Lm
  | .mk k i xs => if k = 5 then ws.getD i.toNat Lm.nil else .mk k i (Lm.fills ws xs)
def Lm.fills (ws : List Lm) : List Lm → List Lm
  | [] => []
  | t :: ts => Lm.fill ws t :: Lm.fills ws ts
end
def Lm.v (i : Int) : Lm := .mk 1 i []
def Lm.l (t : Lm) : Lm := .mk 2 0 [t]
def Lm.a (f x : Lm) : Lm := .mk 3 0 [f, x]
def Lm.isOne (t : Lm) : Option Lm := match t.subs with
  | f :: x :: _ => if t.kind = 3 ∧ f.same (Lm.v 1) = true then some x else none
  | _ => none
def Lm.chain : Nat → Lm → Int × Lm
  | 0, t => (0, t)
  | n + 1, t => match t.isOne with
    | some x => ((Lm.chain n x).1 + 1, (Lm.chain n x).2)
    | none => (0, t)
def Lm.ch (t : Lm) : Int × Lm := Lm.chain t.size t
def Lm.val (t : Lm) : Int := if t.same (Lm.l (Lm.v 0)) = true then 1 else
  if t.kind = 2 then (match t.subs with
    | g :: _ => if g.kind = 2 then (match g.subs with
      | b :: _ => if b.ch.2.same (Lm.v 0) = true then b.ch.1 else -1
      | [] => -1) else -1
    | [] => -1) else -1

def cNm : ByteArray := ⟨#[99]⟩
def constOf (s : ByteArray) : Int := match (List.range 40).find? (fun k => decide (s = cNm ++ dec2 k)) with
  | some k => k
  | none => -1
def rest1 (s : ByteArray) : ByteArray := s.extract 1 s.size
theorem rest1_list (s : ByteArray) : (rest1 s).data.toList = s.data.toList.drop 1 := by
  unfold rest1
  rw [ByteArray.data_extract, Array.toList_extract, List.extract]
  simp
  rw [List.take_of_length_le (by simp)]
theorem ba_ext {a b : ByteArray} (h : a.data.toList = b.data.toList) : a = b := by
  cases a; cases b
  simp only [ByteArray.mk.injEq]
  exact Array.toList_inj.1 h
theorem dec2_digits {n : Nat} (h : n < 100) : (dec2 n).data.toList = Lib.decDigits n := by
  unfold dec2 digit
  rw [Lib.decDigits]
  by_cases h1 : n < 10
  · rw [if_pos h1, dif_pos h1]
  · rw [if_neg h1, dif_neg h1, Lib.decDigits, dif_pos (by omega), ByteArray.data_append]
    simp
theorem dec2_inj : ∀ a < 40, ∀ b < 40, dec2 a = dec2 b → a = b := by decide +kernel
theorem dec2_atoi : ∀ n < 40, Lib.atoi (dec2 n).data.toList = some (n : Int) := by decide +kernel
theorem itoa_dec2 {n : Nat} (h : n < 100) : (⟨(Lib.itoa (n : Int)).toArray⟩ : ByteArray) = dec2 n := by
  apply ba_ext
  rw [dec2_digits h]
  unfold Lib.itoa
  rw [if_neg (by omega)]
  simp
theorem split1 {s : ByteArray} (h : 1 ≤ s.size) : s.data.toList = UInt8.ofNat (byteAt s 0).toNat :: (rest1 s).data.toList := by
  rw [rest1_list]
  unfold byteAt
  have h2 : 0 < s.data.toList.length := by
    have h3 : s.data.toList.length = s.size := by simp
    omega
  match hl : s.data.toList, h2 with
  | b :: r, _ => simp
theorem byteAt_nm (k : Nat) : byteAt (cNm ++ dec2 k) 0 = 99 := by
  unfold byteAt
  rw [ByteArray.data_append]
  simp [cNm]
theorem rest1_nm (k : Nat) : rest1 (cNm ++ dec2 k) = dec2 k := by
  apply ba_ext
  rw [rest1_list, ByteArray.data_append]
  simp [cNm]
theorem constOf_yes {s : ByteArray} {n : Int} (hs : 1 ≤ s.size) (hl : lettersTo s s.size = true) (h0 : byteAt s 0 = 99) (hi : (⟨(Lib.itoa n).toArray⟩ : ByteArray) = rest1 s) (hn : n < 40) : constOf s = n ∧ 0 ≤ n := by
  have hn0 : 0 ≤ n := by
    rcases Int.lt_or_le n 0 with h | h
    · exfalso
      have h1 : (rest1 s).data.toList = 45 :: Lib.decDigits n.natAbs := by
        rw [← hi]
        simp [Lib.itoa, h]
      have h2 : (45 : UInt8) ∈ s.data.toList := by
        rw [split1 hs, h1]
        simp
      unfold lettersTo at hl
      rw [List.take_of_length_le (by simp)] at hl
      have := List.all_eq_true.1 hl _ h2
      revert this
      decide
    · exact h
  refine ⟨?_, hn0⟩
  obtain ⟨m, rfl⟩ : ∃ m : Nat, n = m := ⟨n.toNat, by omega⟩
  have hm : m < 40 := by omega
  have hs' : s = cNm ++ dec2 m := by
    apply ba_ext
    rw [split1 hs, h0, ← hi, itoa_dec2 (by omega), ByteArray.data_append]
    simp [cNm]
  unfold constOf
  cases hf : (List.range 40).find? (fun k => decide (s = cNm ++ dec2 k)) with
  | none =>
    have := List.find?_eq_none.1 hf m (by simpa using hm)
    simp [hs'] at this
  | some k =>
    have h1 := List.find?_some hf
    have h2 := List.mem_of_find?_eq_some hf
    simp only [decide_eq_true_eq] at h1
    rw [List.mem_range] at h2
    have h3 : dec2 m = dec2 k := by rw [← rest1_nm m, ← hs', h1, rest1_nm]
    simp only
    rw [dec2_inj m hm k h2 h3]
theorem constOf_no {s : ByteArray} (h : ¬ (byteAt s 0 = 99 ∧ ∃ n : Int, Lib.atoi (rest1 s).data.toList = some n ∧ (⟨(Lib.itoa n).toArray⟩ : ByteArray) = rest1 s ∧ n < 40)) : constOf s = -1 := by
  unfold constOf
  cases hf : (List.range 40).find? (fun k => decide (s = cNm ++ dec2 k)) with
  | none => rfl
  | some k =>
    have h1 := List.find?_some hf
    have h2 := List.mem_of_find?_eq_some hf
    simp only [decide_eq_true_eq] at h1
    rw [List.mem_range] at h2
    exact absurd ⟨by rw [h1, byteAt_nm], k, by rw [h1, rest1_nm]; exact dec2_atoi k h2, by rw [h1, rest1_nm]; exact itoa_dec2 (by omega), by omega⟩ h
theorem atoi_range {s : ByteArray} {n : Int} (hz : s.size ≤ 18) (h : Lib.atoi s.data.toList = some n) : -9223372036854775808 ≤ n ∧ n ≤ 9223372036854775807 := by
  have := Lib.atoi_bound h (by simpa using hz)
  omega
theorem nameOk_cases {s : ByteArray} (h : nameOk s = true) : 1 ≤ s.size ∧ s.size ≤ 8 ∧ lettersTo s s.size = true := by
  unfold nameOk at h
  simp only [Bool.and_eq_true, decide_eq_true_eq] at h
  exact ⟨h.1.1.1, h.1.1.2, h.2⟩
theorem rest1_size (s : ByteArray) : (rest1 s).size = s.size - 1 := by
  unfold rest1
  simp

def lxName (p : UInt8) (k : Nat) : ByteArray := ⟨#[p]⟩ ++ decS k
def brk (b : Bool) (s : ByteArray) : ByteArray := if b = true then ⟨#[40]⟩ ++ s ++ ⟨#[41]⟩ else s
inductive LTx (p : UInt8) (o : Nat) : List ByteArray → Lm → ByteArray → Prop
  | v {ns : List ByteArray} {i : Nat} {n : ByteArray} (h : i < ns.length) (hn : ns[ns.length - 1 - i]? = some n) : LTx p o ns (.v i) n
  | c {ns : List ByteArray} {i : Nat} (h : i < 40) : LTx p o ns (.mk 4 i []) (⟨#[99]⟩ ++ decS i)
  | l {ns : List ByteArray} {b : Lm} {s : ByteArray} (ho : o ≤ ns.length) (h : LTx p o (ns ++ [lxName p (ns.length - o)]) b s) : LTx p o ns (.l b) (⟨#[92]⟩ ++ lxName p (ns.length - o) ++ ⟨#[46]⟩ ++ s)
  | a {ns : List ByteArray} {f x : Lm} {s t : ByteArray} (hf : LTx p o ns f s) (hx : LTx p o ns x t) : LTx p o ns (.a f x) (brk (decide (f.kind = 2)) s ++ ⟨#[32]⟩ ++ brk (decide (x.kind = 2 ∨ x.kind = 3)) t)
theorem one_of {α : Type} {l : List α} (h : (l.length : Int) = 1) : ∃ a, l = [a] := by
  match l, h with
  | [a], _ => exact ⟨a, rfl⟩
  | [], h => simp at h
  | _ :: _ :: _, h => simp at h; omega
theorem two_of {α : Type} {l : List α} (h : (l.length : Int) = 2) : ∃ a b, l = [a, b] := by
  match l, h with
  | [a, b], _ => exact ⟨a, b, rfl⟩
  | [], h => simp at h
  | [_], h => simp at h
  | _ :: _ :: _ :: _, h => simp at h; omega
theorem chk_forms {t : Lm} {u : Int} (h : t.chk 0 u = 0) : (∃ i : Nat, (i : Int) < u ∧ t = .v i) ∨ (∃ i : Nat, i < 40 ∧ t = .mk 4 i []) ∨ (∃ b, t = .l b ∧ b.chk 0 (u + 1) = 0) ∨ (∃ f x, t = .a f x ∧ f.chk 0 u = 0 ∧ x.chk 0 u = 0) := by
  obtain ⟨k, i, xs⟩ := t
  rw [Lm.chk] at h
  split at h
  case isFalse => omega
  rename_i hk
  obtain ⟨k1, k2, hl⟩ := hk
  split at h
  case isFalse => omega
  rename_i hi
  obtain ⟨i0, i1⟩ := hi
  obtain ⟨n, rfl⟩ : ∃ n : Nat, i = n := ⟨i.toNat, by omega⟩
  rcases (show k = 1 ∨ k = 2 ∨ k = 3 ∨ k = 4 ∨ k = 5 by omega) with rfl | rfl | rfl | rfl | rfl
  · have : xs = [] := by
      have h0 : (xs.length : Int) = 0 := hl
      exact List.eq_nil_of_length_eq_zero (by omega)
    subst this
    exact .inl ⟨n, by simpa [mostIdx] using i1, rfl⟩
  · obtain ⟨b, rfl⟩ := one_of (show (xs.length : Int) = 1 by simpa [nSubs] using hl)
    have hn0 : n = 0 := by simp [mostIdx] at i1; omega
    subst hn0
    refine .inr (.inr (.inl ⟨b, rfl, ?_⟩))
    have hu : under 2 u = u + 1 := rfl
    simp only [Lm.chks, hu] at h
    by_cases e : Lm.chk 0 b (u + 1) = 0
    · exact e
    · rw [if_neg e] at h
      exact h
  · obtain ⟨f, x, rfl⟩ := two_of (show (xs.length : Int) = 2 by simpa [nSubs] using hl)
    have hn0 : n = 0 := by simp [mostIdx] at i1; omega
    subst hn0
    refine .inr (.inr (.inr ⟨f, x, rfl, ?_⟩))
    have hu : under 3 u = u := rfl
    simp only [Lm.chks, hu] at h
    by_cases e : Lm.chk 0 f u = 0
    · rw [if_pos e] at h
      by_cases e2 : Lm.chk 0 x u = 0
      · exact ⟨e, e2⟩
      · rw [if_neg e2] at h
        exact absurd h e2
    · rw [if_neg e] at h
      exact absurd h e
  · have : xs = [] := by
      have h0 : (xs.length : Int) = 0 := hl
      exact List.eq_nil_of_length_eq_zero (by omega)
    subst this
    exact .inr (.inl ⟨n, by simp [mostIdx] at i1; omega, rfl⟩)
  · simp [mostIdx] at i1
    omega
theorem Lm.size_l (b : Lm) : (Lm.l b).size = 1 + b.size := by simp [Lm.l, Lm.size, Lm.sizes]
theorem Lm.size_a (f x : Lm) : (Lm.a f x).size = 1 + f.size + x.size := by simp [Lm.a, Lm.size, Lm.sizes]; omega
theorem brk_size (b : Bool) (s : ByteArray) : s.size ≤ (brk b s).size ∧ (brk b s).size ≤ s.size + 2 := by
  unfold brk
  split
  · simp only [ByteArray.size_append]
    have h1 : (⟨#[40]⟩ : ByteArray).size = 1 := rfl
    have h2 : (⟨#[41]⟩ : ByteArray).size = 1 := rfl
    omega
  · omega
theorem lxName_size {p : UInt8} {k : Nat} (h : k < 1000000) : (lxName p k).size ≤ 7 := by
  have := decS_size_le h
  unfold lxName
  rw [ByteArray.size_append]
  have h1 : (⟨#[p]⟩ : ByteArray).size = 1 := rfl
  omega

inductive LW : Lm → Prop
  | v (i : Nat) : LW (.v i)
  | c {i : Nat} (h : i < 40) : LW (.mk 4 i [])
  | l {b : Lm} (h : LW b) : LW (.l b)
  | a {f x : Lm} (hf : LW f) (hx : LW x) : LW (.a f x)
theorem lw_of : ∀ (z : Nat) (t : Lm) (u : Int), t.size ≤ z → t.chk 0 u = 0 → LW t
  | 0, t, u, hz, _ => by have := Lm.size_pos t; omega
  | z + 1, t, u, hz, h => by
    rcases chk_forms h with ⟨i, hi, rfl⟩ | ⟨i, hi, rfl⟩ | ⟨b, rfl, hb⟩ | ⟨f, x, rfl, hf, hx⟩
    · exact .v i
    · exact .c hi
    · rw [Lm.size_l] at hz
      exact .l (lw_of z b _ (by omega) hb)
    · rw [Lm.size_a] at hz
      exact .a (lw_of z f _ (by omega) hf) (lw_of z x _ (by omega) hx)
theorem mv_v (b d i : Int) : Lm.mv b d (.v i) = .v (if d ≤ i then i + b else i) := by simp [Lm.v, Lm.mv, Lm.mvs]
theorem mv_c (b d i : Int) : Lm.mv b d (.mk 4 i []) = .mk 4 i [] := by simp [Lm.mv, Lm.mvs]
theorem mv_l (b d : Int) (t : Lm) : Lm.mv b d (.l t) = .l (Lm.mv b (d + 1) t) := by simp [Lm.l, Lm.mv, Lm.mvs, under]
theorem mv_a (b d : Int) (f x : Lm) : Lm.mv b d (.a f x) = .a (Lm.mv b d f) (Lm.mv b d x) := by simp [Lm.a, Lm.mv, Lm.mvs, under]
theorem put_v (x : Lm) (d i : Int) : Lm.put x d (.v i) = if i = d then Lm.mv d 0 x else if d < i then .v (i - 1) else .v i := by simp [Lm.v, Lm.put]
theorem put_c (x : Lm) (d i : Int) : Lm.put x d (.mk 4 i []) = .mk 4 i [] := by simp [Lm.put, Lm.puts]
theorem put_l (x : Lm) (d : Int) (t : Lm) : Lm.put x d (.l t) = .l (Lm.put x (d + 1) t) := by simp [Lm.l, Lm.put, Lm.puts, under]
theorem put_a (x : Lm) (d : Int) (f y : Lm) : Lm.put x d (.a f y) = .a (Lm.put x d f) (Lm.put x d y) := by simp [Lm.a, Lm.put, Lm.puts, under]
mutual
def Lm.sw : Int → Lm → Lm
  | d, .mk k i xs => if k = 1 then (if i = d then .v (d + 1) else if i = d + 1 then .v d else .mk 1 i []) else .mk k i (Lm.sws (under k d) xs)
def Lm.sws : Int → List Lm → List Lm
  | _, [] => []
  | d, t :: ts => Lm.sw d t :: Lm.sws d ts
end
theorem sw_v (d i : Int) : Lm.sw d (.v i) = if i = d then .v (d + 1) else if i = d + 1 then .v d else .v i := by simp [Lm.v, Lm.sw]
theorem sw_c (d i : Int) : Lm.sw d (.mk 4 i []) = .mk 4 i [] := by simp [Lm.sw, Lm.sws]
theorem sw_l (d : Int) (t : Lm) : Lm.sw d (.l t) = .l (Lm.sw (d + 1) t) := by simp [Lm.l, Lm.sw, Lm.sws, under]
theorem sw_a (d : Int) (f y : Lm) : Lm.sw d (.a f y) = .a (Lm.sw d f) (Lm.sw d y) := by simp [Lm.a, Lm.sw, Lm.sws, under]
theorem mv_mv {t : Lm} (h : LW t) : ∀ {d c f e : Int}, f ≤ e → e ≤ f + c → 0 ≤ d → Lm.mv d e (Lm.mv c f t) = Lm.mv (d + c) f t := by
  induction h with
  | v i =>
    intro d c f e h1 h2 hd
    rw [mv_v, mv_v, mv_v]
    congr 1
    split <;> split <;> omega
  | c h => intro d c f e h1 h2 hd; rw [mv_c, mv_c, mv_c]
  | l h ih => intro d c f e h1 h2 hd; rw [mv_l, mv_l, mv_l, ih (by omega) (by omega) hd]
  | a hf hx i1 i2 => intro d c f e h1 h2 hd; rw [mv_a, mv_a, mv_a, i1 h1 h2 hd, i2 h1 h2 hd]
theorem put_gone {t : Lm} (h : LW t) (z : Lm) : ∀ {c d : Int}, 0 ≤ d → 0 ≤ c → Lm.put z (c + d) (Lm.mv (d + 1) c t) = Lm.mv d c t := by
  induction h with
  | v i =>
    intro c d hd hc
    rw [mv_v, mv_v, put_v]
    by_cases h : c ≤ (i : Int)
    · rw [if_pos h, if_neg (by omega), if_pos (by omega), if_pos h]
      congr 1
      omega
    · rw [if_neg h, if_neg (by omega), if_neg (by omega), if_neg h]
  | c h => intro c d hd hc; rw [mv_c, put_c, mv_c]
  | l h ih => intro c d hd hc; rw [mv_l, mv_l, put_l, show c + d + 1 = (c + 1) + d by omega, ih hd (by omega)]
  | a hf hx i1 i2 => intro c d hd hc; rw [mv_a, mv_a, put_a, i1 hd hc, i2 hd hc]
theorem put_mv {t y : Lm} (h : LW t) (hy : LW y) : ∀ {c d : Int}, 0 ≤ d → 0 ≤ c → Lm.put y (d + c) (Lm.mv d c t) = Lm.mv d c (Lm.put y c t) := by
  induction h with
  | v i =>
    intro c d hd hc
    rw [mv_v, put_v, put_v]
    by_cases h : (i : Int) = c
    · rw [if_pos (show c ≤ (i : Int) by omega), if_pos (show (i : Int) + d = d + c by omega), if_pos h, mv_mv hy hc (by omega) hd]
    · rw [if_neg h]
      by_cases h2 : c < (i : Int)
      · rw [if_pos (show c ≤ (i : Int) by omega), if_neg (show ¬ (i : Int) + d = d + c by omega), if_pos (show d + c < (i : Int) + d by omega), if_pos h2, mv_v, if_pos (by omega)]
        congr 1
        omega
      · rw [if_neg (show ¬ c ≤ (i : Int) by omega), if_neg (show ¬ (i : Int) = d + c by omega), if_neg (show ¬ d + c < (i : Int) by omega), if_neg h2, mv_v, if_neg (by omega)]
  | c h => intro c d hd hc; rw [mv_c, put_c, put_c, mv_c]
  | l h ih => intro c d hd hc; rw [mv_l, put_l, put_l, mv_l, show d + c + 1 = d + (c + 1) by omega, ih hd (by omega)]
  | a hf hx i1 i2 => intro c d hd hc; rw [mv_a, put_a, put_a, mv_a, i1 hd hc, i2 hd hc]
theorem put_put {t x y : Lm} (h : LW t) (hx : LW x) (hy : LW y) : ∀ {d : Int}, 0 ≤ d → Lm.put y d (Lm.put x d t) = Lm.put (Lm.put y 0 x) d (Lm.put (Lm.mv 1 0 y) d (Lm.sw d t)) := by
  induction h with
  | v i =>
    intro d hd
    rw [put_v, sw_v]
    by_cases h1 : (i : Int) = d
    · rw [if_pos h1, if_pos h1, put_v, if_neg (by omega), if_pos (by omega), put_v, if_pos (by omega)]
      have := put_mv (y := y) hx hy (c := 0) hd (Int.le_refl _)
      rw [show d + 0 = d by omega] at this
      exact this
    · rw [if_neg h1, if_neg h1]
      by_cases h2 : (i : Int) = d + 1
      · rw [if_pos (by omega), put_v, if_pos (by omega), if_pos h2, put_v, if_pos rfl, mv_mv hy (by omega) (by omega) hd]
        have := put_gone hy (Lm.put y 0 x) (c := 0) hd (Int.le_refl _)
        rw [show 0 + d = d by omega] at this
        exact this.symm
      · rw [if_neg h2]
        by_cases h3 : d < (i : Int)
        · rw [if_pos h3, put_v, if_neg (by omega), if_pos (by omega), put_v, if_neg h1, if_pos h3, put_v, if_neg (by omega), if_pos (by omega)]
        · rw [if_neg h3, put_v, if_neg h1, if_neg h3, put_v, if_neg h1, if_neg h3, put_v, if_neg h1, if_neg h3]
  | c h => intro d hd; rw [put_c, put_c, sw_c, put_c, put_c]
  | l h ih => intro d hd; rw [put_l, put_l, sw_l, put_l, put_l, ih (by omega)]
  | a hf hg i1 i2 => intro d hd; rw [put_a, put_a, sw_a, put_a, put_a, i1 hd, i2 hd]
theorem chk_v {u : Int} {i : Int} (h0 : 0 ≤ i) (h : i < u) : (Lm.v i).chk 0 u = 0 := by
  simp [Lm.v, Lm.chk, Lm.chks, nSubs, mostIdx, h0, h]
theorem chk_v' {u i : Int} (h : (Lm.v i).chk 0 u = 0) : 0 ≤ i ∧ i < u := by
  simp [Lm.v, Lm.chk, Lm.chks, nSubs, mostIdx] at h
  exact h
theorem chk_c {u i : Int} (h0 : 0 ≤ i) (h : i < 40) : (Lm.mk 4 i []).chk 0 u = 0 := by
  simp [Lm.chk, Lm.chks, nSubs, mostIdx, h0, h]
theorem chk_l (t : Lm) (u : Int) : (Lm.l t).chk 0 u = 0 ↔ t.chk 0 (u + 1) = 0 := by
  simp only [Lm.l, Lm.chk, Lm.chks, nSubs, mostIdx, under]
  by_cases h : t.chk 0 (u + 1) = 0 <;> simp [h]
theorem chk_a (f x : Lm) (u : Int) : (Lm.a f x).chk 0 u = 0 ↔ (f.chk 0 u = 0 ∧ x.chk 0 u = 0) := by
  simp only [Lm.a, Lm.chk, Lm.chks, nSubs, mostIdx, under]
  by_cases h : f.chk 0 u = 0 <;> by_cases h' : x.chk 0 u = 0 <;> simp [h, h']
theorem chk_mv {t : Lm} (h : LW t) : ∀ {b d u : Int}, 0 ≤ b → t.chk 0 u = 0 → (Lm.mv b d t).chk 0 (u + b) = 0 := by
  induction h with
  | v i =>
    intro b d u hb hc
    have := chk_v' hc
    rw [mv_v]
    refine chk_v ?_ ?_ <;> split <;> omega
  | c h => intro b d u hb hc; rw [mv_c]; exact chk_c (by omega) (by omega)
  | l h ih =>
    intro b d u hb hc
    rw [mv_l, chk_l, show u + b + 1 = (u + 1) + b by omega]
    exact ih hb ((chk_l _ _).1 hc)
  | a hf hx i1 i2 =>
    intro b d u hb hc
    obtain ⟨q1, q2⟩ := (chk_a _ _ _).1 hc
    rw [mv_a, chk_a]
    exact ⟨i1 hb q1, i2 hb q2⟩
theorem chk_put {t x : Lm} (h : LW t) (hx : LW x) : ∀ {d u : Int}, 0 ≤ d → d ≤ u → t.chk 0 (u + 1) = 0 → x.chk 0 (u - d) = 0 → (Lm.put x d t).chk 0 u = 0 := by
  induction h with
  | v i =>
    intro d u hd hu hc hxc
    have := chk_v' hc
    rw [put_v]
    split
    · have := chk_mv hx (b := d) (d := 0) hd hxc
      rw [show u - d + d = u by omega] at this
      exact this
    · split
      · exact chk_v (by omega) (by omega)
      · exact chk_v (by omega) (by omega)
  | c h => intro d u hd hu hc hxc; rw [put_c]; exact chk_c (by omega) (by omega)
  | l h ih =>
    intro d u hd hu hc hxc
    rw [put_l, chk_l]
    exact ih (by omega) (by omega) ((chk_l _ _).1 hc) (by rw [show u + 1 - (d + 1) = u - d by omega]; exact hxc)
  | a hf hg i1 i2 =>
    intro d u hd hu hc hxc
    obtain ⟨q1, q2⟩ := (chk_a _ _ _).1 hc
    rw [put_a, chk_a]
    exact ⟨i1 hd hu q1 hxc, i2 hd hu q2 hxc⟩
theorem chk_sw {t : Lm} (h : LW t) : ∀ {d u : Int}, 0 ≤ d → d + 2 ≤ u → t.chk 0 u = 0 → (Lm.sw d t).chk 0 u = 0 := by
  induction h with
  | v i =>
    intro d u hd hu hc
    have := chk_v' hc
    rw [sw_v]
    split
    · exact chk_v (by omega) (by omega)
    · split
      · exact chk_v (by omega) (by omega)
      · exact chk_v (by omega) (by omega)
  | c h => intro d u hd hu hc; rw [sw_c]; exact chk_c (by omega) (by omega)
  | l h ih =>
    intro d u hd hu hc
    rw [sw_l, chk_l]
    exact ih (by omega) (by omega) ((chk_l _ _).1 hc)
  | a hf hx i1 i2 =>
    intro d u hd hu hc
    obtain ⟨q1, q2⟩ := (chk_a _ _ _).1 hc
    rw [sw_a, chk_a]
    exact ⟨i1 hd hu q1, i2 hd hu q2⟩
mutual
def Lm.lvs : Lm → Nat
  | .mk _ _ xs => if xs.isEmpty then 1 else Lm.lvss xs
def Lm.lvss : List Lm → Nat
  | [] => 0
  | t :: ts => t.lvs + Lm.lvss ts
end
theorem lvs_leaf (k i : Int) : (Lm.mk k i []).lvs = 1 := by simp [Lm.lvs]
theorem lvs_l (b : Lm) : (Lm.l b).lvs = b.lvs := by simp [Lm.l, Lm.lvs, Lm.lvss]
theorem lvs_a (f x : Lm) : (Lm.a f x).lvs = f.lvs + x.lvs := by simp [Lm.a, Lm.lvs, Lm.lvss]
theorem size_leaf (k i : Int) : (Lm.mk k i []).size = 1 := by simp [Lm.size, Lm.sizes]
theorem mv_lvs {t : Lm} (h : LW t) : ∀ (b d : Int), (Lm.mv b d t).lvs = t.lvs := by
  induction h with
  | v i => intro b d; rw [mv_v]; simp [Lm.v, lvs_leaf]
  | c h => intro b d; rw [mv_c]
  | l h ih => intro b d; rw [mv_l, lvs_l, lvs_l, ih]
  | a hf hx i1 i2 => intro b d; rw [mv_a, lvs_a, lvs_a, i1, i2]
theorem sw_size {t : Lm} (h : LW t) : ∀ (d : Int), (Lm.sw d t).size = t.size ∧ (Lm.sw d t).lvs = t.lvs := by
  induction h with
  | v i => intro d; rw [sw_v]; split <;> (try split) <;> simp [Lm.v, lvs_leaf, size_leaf]
  | c h => intro d; rw [sw_c]; exact ⟨rfl, rfl⟩
  | l h ih => intro d; rw [sw_l, lvs_l, lvs_l, Lm.size_l, Lm.size_l]; have := ih (d + 1); omega
  | a hf hx i1 i2 => intro d; rw [sw_a, lvs_a, lvs_a, Lm.size_a, Lm.size_a]; have := i1 d; have := i2 d; omega
theorem put_lvs {t x : Lm} (h : LW t) (hx : LW x) (k : Nat) (hk : x.size ≤ k + 1) (l : Nat) (hl : x.lvs ≤ l) (h1 : 1 ≤ l) : ∀ (d : Int), (Lm.put x d t).size ≤ t.size + t.lvs * k ∧ (Lm.put x d t).lvs ≤ t.lvs * l := by
  induction h with
  | v i =>
    intro d
    rw [put_v]
    have e1 : (Lm.v (i : Int)).lvs = 1 := lvs_leaf _ _
    have e2 : (Lm.v (i : Int)).size = 1 := size_leaf _ _
    rw [e1, e2]
    split
    · rw [Lm.size_mv, mv_lvs hx]
      omega
    · split
      · rw [show (Lm.v ((i : Int) - 1)).size = 1 from size_leaf _ _, show (Lm.v ((i : Int) - 1)).lvs = 1 from lvs_leaf _ _]
        omega
      · rw [e1, e2]
        omega
  | c h =>
    intro d
    rw [put_c, size_leaf, lvs_leaf]
    omega
  | l h ih =>
    intro d
    rw [put_l, lvs_l, lvs_l, Lm.size_l, Lm.size_l]
    have := ih (d + 1)
    omega
  | @a f g hf hg i1 i2 =>
    intro d
    rw [put_a, lvs_a, lvs_a, Lm.size_a, Lm.size_a, Nat.add_mul, Nat.add_mul]
    have := i1 d
    have := i2 d
    omega
def lvM (m : Nat) : Nat := if m < 3 then 1 else if m < 6 then 2 else if m < 12 then 4 else if m < 24 then 8 else m
def tzM (m : Nat) : Nat := if m < 3 then 1 else if m < 6 then m else if m < 12 then m + 1 else if m < 24 then m + 3 else 3 * m - 1
def Lm.Of (t : Lm) (m : Nat) : Prop := t.size ≤ tzM m ∧ t.lvs ≤ lvM m
theorem Lm.of_leaf (m : Nat) (k i : Int) : (Lm.mk k i []).Of m := by
  unfold Lm.Of
  rw [size_leaf, lvs_leaf]
  unfold tzM lvM
  refine ⟨?_, ?_⟩ <;> (repeat' split) <;> omega
theorem Lm.of_l {m : Nat} {b : Lm} (hm : 3 ≤ m) (h : b.Of (m - 1)) : (Lm.l b).Of m := by
  unfold Lm.Of at *
  rw [Lm.size_l, lvs_l]
  obtain ⟨h1, h2⟩ := h
  unfold tzM lvM at *
  refine ⟨?_, ?_⟩ <;> (repeat' split at h1) <;> (repeat' split at h2) <;> (repeat' split) <;> omega
theorem Lm.of_a {m : Nat} {f x : Lm} (hm : 3 ≤ m) (h : f.Of (m / 2)) (h' : x.Of (m / 2)) : (Lm.a f x).Of m := by
  unfold Lm.Of at *
  rw [Lm.size_a, lvs_a]
  obtain ⟨h1, h2⟩ := h
  obtain ⟨h3, h4⟩ := h'
  have e1 : 1 + 2 * tzM (m / 2) ≤ tzM m := by
    unfold tzM
    (repeat' split) <;> omega
  have e2 : 2 * lvM (m / 2) ≤ lvM m := by
    unfold lvM
    (repeat' split) <;> omega
  omega

set_option maxRecDepth 100000
def ir_lambda_within : IR :=
  (.seq (.ops [.i 2 (.box 25 (.t 0)), .i 4 (.mov (.n 0))]) (.seq (.ops [.m 7 1, .i 8 (.bin .sub (.t 7) (.n 1)), .m 1 8]) (.seq (.seq (.ops [.f 9 2 2, .l 10 9, .i 11 (.len false (.t 10)), .i 12 (.mov (.n 0))]) (.block 0 (.loop (.seq (.ops [.i 13 (.bin .lss (.t 12) (.t 11))]) (.seq (.cond (.t 13) .skip (.exit 0)) (.seq (.block 1 (.seq (.ops [.i 14 (.indexAddr 3 (.t 10) (.t 12)), .L 15 3 14, .i 6 (.alloc 25 [.st (.int .i64 0), .st (.int .i64 0), .full []]), .s 3 6 15]) (.seq (.seq (.ops [.m 16 1, .i 17 (.bin .lss (.t 16) (.n 0))]) (.cond (.t 17) (.exit 0) .skip)) (.ops [.L 18 3 6, .m 19 1, .i 20 (.call 35 [.t 18, .t 19]), .m 1 20])))) (.ops [.i 21 (.bin .add (.t 12) (.n 1)), .m 12 21]))))))) (.seq (.ops [.m 22 1, .m 4 22]) .ret))))
theorem ok_lambda_within : OkF Tryd.prog 35 23 [] ir_lambda_within [.t 4] := .of Tryd.func35 rfl rfl (by kernel_rfl) rfl
def ir_lambda_check : IR :=
  (.seq (.ops [.i 3 (.box 25 (.t 0)), .i 6 (.mov (.n 0))]) (.seq (.seq (.ops [.f 11 0 3, .l 12 11, .i 13 (.bin .lss (.t 12) (.n 1)), .m 14 13, .mk (some 15) (some (14, false)) (.fieldAddr 0 (.t 3)) .no, .mk (some 16) (some (14, false)) (.load false 1 (.t 15)) .no, .mk (some 17) (some (14, false)) (.bin .gtr (.t 16) (.n 5)) .no, .i 18 (.pick (.t 14) (.c (.one (.st (.bool true)))) (.t 17)), .m 19 18, .mk (some 20) (some (19, false)) (.fieldAddr 2 (.t 3)) .no, .mk (some 21) (some (19, false)) (.load false 1 (.t 20)) .no, .mk (some 22) (some (19, false)) (.len false (.t 21)) .no, .mk (some 23) (some (19, false)) (.fieldAddr 0 (.t 3)) .no, .mk (some 24) (some (19, false)) (.load false 1 (.t 23)) .no, .mk (some 25) (some (19, false)) (.indexArr 6 1 (.c (.one (.eptr [.int .i64 0, .int .i64 0, .int .i64 1, .int .i64 2, .int .i64 0, .int .i64 0]))) (.t 24)) .no, .mk (some 26) (some (19, false)) (.load false 1 (.t 25)) .no, .mk (some 27) (some (19, false)) (.bin .neq (.t 22) (.t 26)) .no, .i 28 (.pick (.t 19) (.c (.one (.st (.bool true)))) (.t 27))]) (.cond (.t 28) (.seq (.ops [.i 6 (.mov (.n 2))]) .ret) .skip)) (.seq (.ops [.i 7 (.mov (.n 1))]) (.seq (.seq (.ops [.f 29 0 3, .l 30 29]) (.block 0 (.seq (.ops [.i 32 (.bin .eql (.t 30) (.n 1)), .m 31 32]) (.cond (.t 31) (.ops [.m 33 1, .m 7 33]) (.seq (.ops [.i 35 (.bin .eql (.t 30) (.n 4)), .m 34 35]) (.cond (.t 34) (.ops [.i 7 (.mov (.n 40))]) (.seq (.ops [.i 37 (.bin .eql (.t 30) (.n 5)), .m 36 37]) (.cond (.t 36) (.ops [.m 38 2, .m 7 38]) .skip)))))))) (.seq (.seq (.ops [.f 39 1 3, .l 40 39, .i 41 (.bin .lss (.t 40) (.n 0)), .m 42 41, .mk (some 43) (some (42, false)) (.fieldAddr 1 (.t 3)) .no, .mk (some 44) (some (42, false)) (.load false 1 (.t 43)) .no, .mk (some 45) (some (42, false)) (.mov (.t 7)) .no, .mk (some 46) (some (42, false)) (.bin .geq (.t 44) (.t 45)) .no, .i 47 (.pick (.t 42) (.c (.one (.st (.bool true)))) (.t 46))]) (.cond (.t 47) (.seq (.ops [.i 6 (.mov (.n 15))]) .ret) .skip)) (.seq (.seq (.ops [.f 48 0 3, .l 49 48, .i 50 (.bin .eql (.t 49) (.n 2))]) (.cond (.t 50) (.ops [.m 51 1, .i 52 (.bin .add (.t 51) (.n 1)), .m 1 52]) .skip)) (.seq (.seq (.ops [.f 53 2 3, .l 54 53, .i 55 (.len false (.t 54)), .i 56 (.mov (.n 0))]) (.block 1 (.loop (.seq (.ops [.i 57 (.bin .lss (.t 56) (.t 55))]) (.seq (.cond (.t 57) .skip (.exit 1)) (.seq (.block 2 (.seq (.ops [.i 58 (.indexAddr 3 (.t 54) (.t 56)), .L 59 3 58, .i 9 (.alloc 25 [.st (.int .i64 0), .st (.int .i64 0), .full []]), .s 3 9 59]) (.seq (.ops [.L 60 3 9, .m 61 1, .m 62 2, .i 63 (.call 36 [.t 60, .t 61, .t 62]), .m 10 63]) (.seq (.ops [.m 64 10, .i 65 (.bin .neq (.t 64) (.n 0))]) (.cond (.t 65) (.seq (.ops [.m 66 10, .m 6 66]) .ret) .skip))))) (.ops [.i 67 (.bin .add (.t 56) (.n 1)), .m 56 67]))))))) (.seq (.ops [.i 6 (.mov (.n 0))]) .ret))))))))
theorem ok_lambda_check : OkF Tryd.prog 36 68 [] ir_lambda_check [.t 6] := .of Tryd.func36 rfl rfl (by kernel_rfl) rfl
def ir_lambda_CheckWith : IR :=
  (.seq (.ops [.i 3 (.box 25 (.t 0)), .i 6 (.mov (.n 0))]) (.seq (.seq (.ops [.m 7 1, .i 8 (.bin .lss (.t 7) (.n 0)), .m 9 8, .mk (some 10) (some (9, false)) (.mov (.t 1)) .no, .mk (some 11) (some (9, false)) (.bin .gtr (.t 10) (.n 40)) .no, .i 12 (.pick (.t 9) (.c (.one (.st (.bool true)))) (.t 11))]) (.cond (.t 12) (.seq (.ops [.i 6 (.mov (.n 10))]) .ret) .skip)) (.seq (.seq (.ops [.L 13 3 3, .i 14 (.call 35 [.t 13, .n 200]), .i 15 (.bin .lss (.t 14) (.n 0))]) (.cond (.t 15) (.seq (.ops [.i 6 (.mov (.n 3))]) .ret) .skip)) (.seq (.ops [.L 16 3 3, .m 17 1, .m 18 2, .i 19 (.call 36 [.t 16, .t 17, .t 18]), .m 6 19]) .ret))))
theorem ok_lambda_CheckWith : OkF Tryd.prog 25 20 [] ir_lambda_CheckWith [.t 6] := .of Tryd.func25 rfl rfl (by kernel_rfl) rfl
def ir_lambda_Check : IR :=
  (.seq (.ops [.i 2 (.box 25 (.t 0)), .i 4 (.mov (.n 0))]) (.seq (.ops [.L 5 3 2, .m 6 1, .i 7 (.call 25 [.t 5, .t 6, .n 0]), .m 4 7]) .ret))
theorem ok_lambda_Check : OkF Tryd.prog 13 8 [] ir_lambda_Check [.t 4] := .of Tryd.func13 rfl rfl (by kernel_rfl) rfl
def ir_lambda_Size : IR :=
  (.seq (.ops [.i 1 (.box 25 (.t 0)), .i 2 (.mov (.n 0))]) (.seq (.ops [.i 3 (.mov (.n 1))]) (.seq (.seq (.ops [.f 6 2 1, .l 7 6, .i 8 (.len false (.t 7)), .i 9 (.mov (.n 0))]) (.block 0 (.loop (.seq (.ops [.i 10 (.bin .lss (.t 9) (.t 8))]) (.seq (.cond (.t 10) .skip (.exit 0)) (.seq (.block 1 (.seq (.ops [.i 11 (.indexAddr 3 (.t 7) (.t 9)), .L 12 3 11, .i 5 (.alloc 25 [.st (.int .i64 0), .st (.int .i64 0), .full []]), .s 3 5 12]) (.ops [.m 13 3, .L 14 3 5, .i 15 (.call 15 [.t 14]), .i 16 (.bin .add (.t 13) (.t 15)), .m 3 16]))) (.ops [.i 17 (.bin .add (.t 9) (.n 1)), .m 9 17]))))))) (.seq (.ops [.m 18 3, .m 2 18]) .ret))))
theorem ok_lambda_Size : OkF Tryd.prog 15 19 [] ir_lambda_Size [.t 2] := .of Tryd.func15 rfl rfl (by kernel_rfl) rfl
def ir_lambda_V : IR :=
  (.seq (.ops [.i 2 (.alloc 25 [.st (.int .i64 0), .st (.int .i64 0), .full []])]) (.seq (.ops [.m 3 0, .i 4 (.build [.st (.int .i64 0), .st (.int .i64 0), .full []] [(0, 1, .n 1), (1, 1, .t 3)]), .s 3 2 4]) .ret))
theorem ok_lambda_V : OkF Tryd.prog 38 5 [] ir_lambda_V [.cell 2 true 3] := .of Tryd.func38 rfl rfl (by kernel_rfl) rfl
def ir_lambda_Move : IR :=
  (.seq (.ops [.i 3 (.box 25 (.t 0)), .i 6 (.alloc 25 [.st (.int .i64 0), .st (.int .i64 0), .full []])]) (.seq (.ops [.f 10 0 3, .l 11 10, .f 12 1 3, .l 13 12, .i 14 (.build [.st (.int .i64 0), .st (.int .i64 0), .full []] [(0, 1, .t 11), (1, 1, .t 13)]), .i 7 (.alloc 25 [.st (.int .i64 0), .st (.int .i64 0), .full []]), .s 3 7 14]) (.seq (.seq (.ops [.f 15 0 3, .l 16 15]) (.block 0 (.seq (.ops [.i 18 (.bin .eql (.t 16) (.n 1)), .m 17 18]) (.cond (.t 17) (.seq (.ops [.f 19 1 3, .l 20 19, .m 21 2, .i 22 (.bin .geq (.t 20) (.t 21))]) (.cond (.t 22) (.ops [.f 23 1 7, .l 24 23, .m 25 1, .i 26 (.bin .add (.t 24) (.t 25)), .f 27 1 7, .s 1 27 26]) .skip)) (.seq (.ops [.i 29 (.bin .eql (.t 16) (.n 2)), .m 28 29]) (.cond (.t 28) (.ops [.m 30 2, .i 31 (.bin .add (.t 30) (.n 1)), .m 2 31]) .skip)))))) (.seq (.seq (.ops [.f 32 2 3, .l 33 32, .i 34 (.len false (.t 33)), .i 35 (.mov (.n 0))]) (.block 1 (.loop (.seq (.ops [.i 36 (.bin .lss (.t 35) (.t 34))]) (.seq (.cond (.t 36) .skip (.exit 1)) (.seq (.block 2 (.seq (.ops [.i 37 (.indexAddr 3 (.t 33) (.t 35)), .L 38 3 37, .i 9 (.alloc 25 [.st (.int .i64 0), .st (.int .i64 0), .full []]), .s 3 9 38]) (.ops [.f 39 2 7, .l 40 39, .L 41 3 9, .m 42 1, .m 43 2, .i 44 (.call 37 [.t 41, .t 42, .t 43]), .i 45 (.buildSlice false 25 3 [.t 44]), .i 46 (.append false 25 3 40 (.t 40) (.t 45)), .f 47 2 7, .s 1 47 46]))) (.ops [.i 48 (.bin .add (.t 35) (.n 1)), .m 35 48]))))))) (.seq (.ops [.L 49 3 7, .s 3 6 49]) .ret)))))
theorem ok_lambda_Move : OkF Tryd.prog 37 50 [] ir_lambda_Move [.cell 6 true 3] := .of Tryd.func37 rfl rfl (by kernel_rfl) rfl
def ir_lambda_into : IR :=
  (.seq (.ops [.i 3 (.box 25 (.t 0)), .i 4 (.box 25 (.t 1)), .i 6 (.alloc 25 [.st (.int .i64 0), .st (.int .i64 0), .full []])]) (.seq (.seq (.ops [.f 10 0 3, .l 11 10, .i 12 (.bin .eql (.t 11) (.n 1))]) (.cond (.t 12) (.seq (.block 0 (.seq (.ops [.f 14 1 3, .l 15 14, .m 16 2, .i 17 (.bin .eql (.t 15) (.t 16)), .m 13 17]) (.cond (.t 13) (.seq (.ops [.L 18 3 4, .m 19 2, .i 20 (.call 37 [.t 18, .t 19, .n 0]), .s 3 6 20]) .ret) (.seq (.ops [.f 22 1 3, .l 23 22, .m 24 2, .i 25 (.bin .gtr (.t 23) (.t 24)), .m 21 25]) (.cond (.t 21) (.seq (.ops [.f 26 1 3, .l 27 26, .i 28 (.bin .sub (.t 27) (.n 1)), .i 29 (.call 38 [.t 28]), .s 3 6 29]) .ret) .skip))))) (.seq (.ops [.f 30 1 3, .l 31 30, .i 32 (.call 38 [.t 31]), .s 3 6 32]) .ret)) .skip)) (.seq (.ops [.f 33 0 3, .l 34 33, .f 35 1 3, .l 36 35, .i 37 (.build [.st (.int .i64 0), .st (.int .i64 0), .full []] [(0, 1, .t 34), (1, 1, .t 36)]), .i 7 (.alloc 25 [.st (.int .i64 0), .st (.int .i64 0), .full []]), .s 3 7 37]) (.seq (.seq (.ops [.f 38 0 3, .l 39 38, .i 40 (.bin .eql (.t 39) (.n 2))]) (.cond (.t 40) (.ops [.m 41 2, .i 42 (.bin .add (.t 41) (.n 1)), .m 2 42]) .skip)) (.seq (.seq (.ops [.f 43 2 3, .l 44 43, .i 45 (.len false (.t 44)), .i 46 (.mov (.n 0))]) (.block 1 (.loop (.seq (.ops [.i 47 (.bin .lss (.t 46) (.t 45))]) (.seq (.cond (.t 47) .skip (.exit 1)) (.seq (.block 2 (.seq (.ops [.i 48 (.indexAddr 3 (.t 44) (.t 46)), .L 49 3 48, .i 9 (.alloc 25 [.st (.int .i64 0), .st (.int .i64 0), .full []]), .s 3 9 49]) (.ops [.f 50 2 7, .l 51 50, .L 52 3 9, .L 53 3 4, .m 54 2, .i 55 (.call 26 [.t 52, .t 53, .t 54]), .i 56 (.buildSlice false 25 3 [.t 55]), .i 57 (.append false 25 3 40 (.t 51) (.t 56)), .f 58 2 7, .s 1 58 57]))) (.ops [.i 59 (.bin .add (.t 46) (.n 1)), .m 46 59]))))))) (.seq (.ops [.L 60 3 7, .s 3 6 60]) .ret))))))
theorem ok_lambda_into : OkF Tryd.prog 26 61 [] ir_lambda_into [.cell 6 true 3] := .of Tryd.func26 rfl rfl (by kernel_rfl) rfl
def ir_lambda_Into : IR :=
  (.seq (.ops [.i 2 (.box 25 (.t 0)), .i 3 (.box 25 (.t 1)), .i 4 (.alloc 25 [.st (.int .i64 0), .st (.int .i64 0), .full []])]) (.seq (.ops [.L 5 3 2, .L 6 3 3, .i 7 (.call 26 [.t 5, .t 6, .n 0]), .s 3 4 7]) .ret))
theorem ok_lambda_Into : OkF Tryd.prog 14 8 [] ir_lambda_Into [.cell 4 true 3] := .of Tryd.func14 rfl rfl (by kernel_rfl) rfl
def ir_lambda_Put : IR :=
  (.seq (.ops [.i 3 (.box 25 (.t 0)), .i 4 (.box 25 (.t 1)), .i 6 (.alloc 25 [.st (.int .i64 0), .st (.int .i64 0), .full []]), .i 7 (.mov (.n 0))]) (.seq (.seq (.ops [.m 10 2, .i 11 (.bin .lss (.t 10) (.n 0)), .m 12 11, .mk (some 13) (some (12, false)) (.mov (.t 2)) .no, .mk (some 14) (some (12, false)) (.bin .geq (.t 13) (.n 40)) .no, .i 15 (.pick (.t 12) (.c (.one (.st (.bool true)))) (.t 14))]) (.cond (.t 15) (.seq (.ops [.i 16 (.build [.st (.int .i64 0), .st (.int .i64 0), .full []] []), .s 3 6 16, .i 7 (.mov (.n 10))]) .ret) .skip)) (.seq (.ops [.L 17 3 3, .m 18 2, .i 19 (.bin .add (.t 18) (.n 1)), .i 20 (.call 13 [.t 17, .t 19]), .m 8 20]) (.seq (.seq (.ops [.m 21 8, .i 22 (.bin .eql (.t 21) (.n 0))]) (.cond (.t 22) (.ops [.L 23 3 4, .m 24 2, .i 25 (.call 13 [.t 23, .t 24]), .m 8 25]) .skip)) (.seq (.seq (.ops [.m 26 8, .i 27 (.bin .neq (.t 26) (.n 0))]) (.cond (.t 27) (.seq (.ops [.i 28 (.build [.st (.int .i64 0), .st (.int .i64 0), .full []] []), .m 29 8, .s 3 6 28, .m 7 29]) .ret) .skip)) (.seq (.seq (.ops [.L 30 3 3, .L 31 3 4, .i 32 (.call 14 [.t 30, .t 31]), .i 9 (.alloc 25 [.st (.int .i64 0), .st (.int .i64 0), .full []]), .s 3 9 32]) (.seq (.ops [.L 33 3 9, .i 34 (.call 15 [.t 33]), .i 35 (.bin .leq (.t 34) (.n 2000))]) (.cond (.t 35) (.seq (.ops [.L 36 3 9, .s 3 6 36, .i 7 (.mov (.n 0))]) .ret) .skip))) (.seq (.ops [.i 37 (.build [.st (.int .i64 0), .st (.int .i64 0), .full []] []), .s 3 6 37, .i 7 (.mov (.n 8))]) .ret)))))))
theorem ok_lambda_Put : OkF Tryd.prog 6 38 [] ir_lambda_Put [.cell 6 true 3, .t 7] := .of Tryd.func6 rfl rfl (by kernel_rfl) rfl
def ir_R_SameLam : IR :=
  (.seq (.ops [.i 2 (.box 25 (.t 0)), .i 3 (.box 25 (.t 1)), .i 4 (.mov (.c (.one (.st (.bool false)))))]) (.seq (.seq (.ops [.f 6 0 2, .l 7 6, .f 8 0 3, .l 9 8, .i 10 (.bin .neq (.t 7) (.t 9)), .m 11 10, .mk (some 12) (some (11, false)) (.fieldAddr 1 (.t 2)) .no, .mk (some 13) (some (11, false)) (.load false 1 (.t 12)) .no, .mk (some 14) (some (11, false)) (.fieldAddr 1 (.t 3)) .no, .mk (some 15) (some (11, false)) (.load false 1 (.t 14)) .no, .mk (some 16) (some (11, false)) (.bin .neq (.t 13) (.t 15)) .no, .i 17 (.pick (.t 11) (.c (.one (.st (.bool true)))) (.t 16)), .m 18 17, .mk (some 19) (some (18, false)) (.fieldAddr 2 (.t 2)) .no, .mk (some 20) (some (18, false)) (.load false 1 (.t 19)) .no, .mk (some 21) (some (18, false)) (.len false (.t 20)) .no, .mk (some 22) (some (18, false)) (.fieldAddr 2 (.t 3)) .no, .mk (some 23) (some (18, false)) (.load false 1 (.t 22)) .no, .mk (some 24) (some (18, false)) (.len false (.t 23)) .no, .mk (some 25) (some (18, false)) (.bin .neq (.t 21) (.t 24)) .no, .i 26 (.pick (.t 18) (.c (.one (.st (.bool true)))) (.t 25))]) (.cond (.t 26) (.seq (.ops [.i 4 (.mov (.c (.one (.st (.bool false)))))]) .ret) .skip)) (.seq (.seq (.ops [.i 5 (.mov (.n 0))]) (.block 0 (.loop (.seq (.seq (.ops [.m 27 5, .f 28 2 2, .l 29 28, .i 30 (.len false (.t 29)), .i 31 (.bin .lss (.t 27) (.t 30))]) (.cond (.t 31) .skip (.exit 0))) (.seq (.block 1 (.seq (.ops [.f 34 2 2, .l 35 34, .m 36 5, .i 37 (.indexAddr 3 (.t 35) (.t 36)), .L 38 3 37, .f 39 2 3, .l 40 39, .m 41 5, .i 42 (.indexAddr 3 (.t 40) (.t 41)), .L 43 3 42, .i 44 (.call 10 [.t 38, .t 43]), .i 45 (.un .not (.t 44))]) (.cond (.t 45) (.seq (.ops [.i 4 (.mov (.c (.one (.st (.bool false)))))]) .ret) .skip))) (.ops [.m 32 5, .i 33 (.bin .add (.t 32) (.n 1)), .m 5 33])))))) (.seq (.ops [.i 4 (.mov (.c (.one (.st (.bool true)))))]) .ret))))
theorem ok_R_SameLam : OkF Tryd.prog 10 46 [] ir_R_SameLam [.t 4] := .of Tryd.func10 rfl rfl (by kernel_rfl) rfl
def ir_R_Var : IR :=
  (.seq (.ops [.i 2 (.alloc 25 [.st (.int .i64 0), .st (.int .i64 0), .full []])]) (.seq (.ops [.m 3 0, .i 4 (.build [.st (.int .i64 0), .st (.int .i64 0), .full []] [(0, 1, .n 1), (1, 1, .t 3)]), .s 3 2 4]) .ret))
theorem ok_R_Var : OkF Tryd.prog 17 5 [] ir_R_Var [.cell 2 true 3] := .of Tryd.func17 rfl rfl (by kernel_rfl) rfl
def ir_R_Higher : IR :=
  (.seq (.ops [.i 3 (.box 25 (.t 0)), .i 6 (.alloc 25 [.st (.int .i64 0), .st (.int .i64 0), .full []])]) (.seq (.seq (.ops [.f 9 0 3, .l 10 9, .i 11 (.bin .eql (.t 10) (.n 1))]) (.cond (.t 11) (.seq (.seq (.ops [.f 12 1 3, .l 13 12, .m 14 2, .i 15 (.bin .lss (.t 13) (.t 14))]) (.cond (.t 15) (.seq (.ops [.L 16 3 3, .s 3 6 16]) .ret) .skip)) (.seq (.ops [.f 17 1 3, .l 18 17, .m 19 1, .i 20 (.bin .add (.t 18) (.t 19)), .i 21 (.call 17 [.t 20]), .s 3 6 21]) .ret)) .skip)) (.seq (.seq (.ops [.f 22 0 3, .l 23 22, .i 24 (.bin .eql (.t 23) (.n 2))]) (.cond (.t 24) (.ops [.m 25 2, .i 26 (.bin .add (.t 25) (.n 1)), .m 2 26]) .skip)) (.seq (.ops [.f 27 0 3, .l 28 27, .f 29 1 3, .l 30 29, .i 31 (.build [.st (.int .i64 0), .st (.int .i64 0), .full []] [(0, 1, .t 28), (1, 1, .t 30)]), .i 7 (.alloc 25 [.st (.int .i64 0), .st (.int .i64 0), .full []]), .s 3 7 31]) (.seq (.seq (.ops [.i 8 (.mov (.n 0))]) (.block 0 (.loop (.seq (.seq (.ops [.m 32 8, .f 33 2 3, .l 34 33, .i 35 (.len false (.t 34)), .i 36 (.bin .lss (.t 32) (.t 35))]) (.cond (.t 36) .skip (.exit 0))) (.seq (.block 1 (.ops [.f 39 2 7, .l 40 39, .f 41 2 3, .l 42 41, .m 43 8, .i 44 (.indexAddr 3 (.t 42) (.t 43)), .L 45 3 44, .m 46 1, .m 47 2, .i 48 (.call 8 [.t 45, .t 46, .t 47]), .i 49 (.buildSlice false 25 3 [.t 48]), .i 50 (.append false 25 3 40 (.t 40) (.t 49)), .f 51 2 7, .s 1 51 50])) (.ops [.m 37 8, .i 38 (.bin .add (.t 37) (.n 1)), .m 8 38])))))) (.seq (.ops [.L 52 3 7, .s 3 6 52]) .ret))))))
theorem ok_R_Higher : OkF Tryd.prog 8 53 [] ir_R_Higher [.cell 6 true 3] := .of Tryd.func8 rfl rfl (by kernel_rfl) rfl
def ir_R_Instead : IR :=
  (.seq (.ops [.i 3 (.box 25 (.t 0)), .i 6 (.alloc 25 [.st (.int .i64 0), .st (.int .i64 0), .full []])]) (.seq (.seq (.ops [.f 10 0 3, .l 11 10, .i 12 (.bin .eql (.t 11) (.n 1))]) (.cond (.t 12) (.seq (.seq (.ops [.f 13 1 3, .l 14 13, .m 15 2, .i 16 (.bin .lss (.t 14) (.t 15))]) (.cond (.t 16) (.seq (.ops [.L 17 3 3, .s 3 6 17]) .ret) .skip)) (.seq (.ops [.f 18 1 3, .l 19 18, .m 20 2, .i 21 (.bin .sub (.t 19) (.t 20)), .m 7 21]) (.seq (.seq (.ops [.m 22 7, .m 23 1, .i 24 (.len false (.t 23)), .i 25 (.bin .lss (.t 22) (.t 24))]) (.cond (.t 25) (.seq (.ops [.m 26 1, .m 27 7, .i 28 (.indexAddr 3 (.t 26) (.t 27)), .L 29 3 28, .m 30 2, .i 31 (.call 8 [.t 29, .t 30, .n 0]), .s 3 6 31]) .ret) .skip)) (.seq (.ops [.f 32 1 3, .l 33 32, .m 34 1, .i 35 (.len false (.t 34)), .i 36 (.bin .sub (.t 33) (.t 35)), .i 37 (.call 17 [.t 36]), .s 3 6 37]) .ret)))) .skip)) (.seq (.seq (.ops [.f 38 0 3, .l 39 38, .i 40 (.bin .eql (.t 39) (.n 2))]) (.cond (.t 40) (.ops [.m 41 2, .i 42 (.bin .add (.t 41) (.n 1)), .m 2 42]) .skip)) (.seq (.ops [.f 43 0 3, .l 44 43, .f 45 1 3, .l 46 45, .i 47 (.build [.st (.int .i64 0), .st (.int .i64 0), .full []] [(0, 1, .t 44), (1, 1, .t 46)]), .i 8 (.alloc 25 [.st (.int .i64 0), .st (.int .i64 0), .full []]), .s 3 8 47]) (.seq (.seq (.ops [.i 9 (.mov (.n 0))]) (.block 0 (.loop (.seq (.seq (.ops [.m 48 9, .f 49 2 3, .l 50 49, .i 51 (.len false (.t 50)), .i 52 (.bin .lss (.t 48) (.t 51))]) (.cond (.t 52) .skip (.exit 0))) (.seq (.block 1 (.ops [.f 55 2 8, .l 56 55, .f 57 2 3, .l 58 57, .m 59 9, .i 60 (.indexAddr 3 (.t 58) (.t 59)), .L 61 3 60, .m 62 1, .m 63 2, .i 64 (.call 16 [.t 61, .t 62, .t 63]), .i 65 (.buildSlice false 25 3 [.t 64]), .i 66 (.append false 25 3 40 (.t 56) (.t 65)), .f 67 2 8, .s 1 67 66])) (.ops [.m 53 9, .i 54 (.bin .add (.t 53) (.n 1)), .m 9 54])))))) (.seq (.ops [.L 68 3 8, .s 3 6 68]) .ret))))))
theorem ok_R_Instead : OkF Tryd.prog 16 69 [] ir_R_Instead [.cell 6 true 3] := .of Tryd.func16 rfl rfl (by kernel_rfl) rfl

set_option linter.unusedSimpArgs false
set_option maxHeartbeats 400000
theorem lwithin_a (t : Lm) (m : Int) (h0 : 0 ≤ m) (h1 : m ≤ 9223372036854775807) : ACalls Tryd.prog 35 [aLm t, aInt m] (aInt (lessBy t.size m)) := by
  induction h : SizeOf.sizeOf t using Nat.strongRecOn generalizing t m with
  | _ N ih =>
  subst h
  have hs := Lm.size_eq t
  refine ok_lambda_within.ac fun C hC => ?_
  unfold ir_lambda_within
  refine IWP.learn 0 (by omega) fun hkn => ?_
  have hkn := (known_lm hkn).2.2
  repeat' (first | (with_reducible first | refine W ?_ | refine Wz0 ?_) | ((with_reducible first | refine Wo (fun K hK => ?_) | refine Wq ?_ | refine Wr ?_); (try simp only [go_sem, fN, seval, eT, iR]); (repeat with_reducible refine Ai ?_); (try (refine hK _ ?_; clear hK K))))
  refine IWP.loopD [6] (fun n s => ∃ k, k ≤ t.subs.length ∧ n = t.subs.length - k ∧ s.env 1 = aInt (lessBy (1 + Lm.sizes (t.subs.take k)) m) ∧ s.env 10 = .one (.st (.list (t.subs.map encL))) ∧ s.env 11 = aInt t.subs.length ∧ s.env 12 = aInt k ∧ s.S 6 = none) t.subs.length ⟨0, Nat.zero_le _, rfl, by
    simp only [go_sem, fN, seval, eT, iR]
    rw [lessBy]
    have z0 : Lm.sizes [] = 0 := rfl
    congr 3
    split <;> omega, rfl, rfl, rfl, rfl⟩ ?_
  rintro n ⟨env, S⟩ ⟨k, hk, rfl, e1, e10, e11, e12, s6⟩
  simp only at e1 e10 e11 e12 s6
  repeat' (first | (with_reducible first | refine W ?_ | refine Wz0 ?_) | ((with_reducible first | refine Wo (fun K hK => ?_) | refine Wq ?_ | refine Wr ?_); (try simp only [go_sem, fN, seval, eT, iR, e1, e10, e11, e12, s6]); (repeat with_reducible refine Ai ?_); (try (refine hK _ ?_; clear hK K))))
  with_reducible refine Wp ?_
  simp only [go_sem, fN, seval, true_implies, false_implies, implies_true, dT, dF, nL, e1, e10, e11, e12, s6]
  (try with_reducible refine iC ?_)
  refine ⟨fun hlt => ?_, fun hge => ?_⟩
  · obtain ⟨a, ha⟩ := get_lt (show k < t.subs.length by omega)
    have z1 := Lm.sizes_take ha
    have z2 := Lm.sizes_take_le t.subs (k + 1)
    have z3 := Lm.length_le t.subs
    have z4 := lessBy_le (1 + Lm.sizes (t.subs.take k)) m h0
    repeat' (first | (with_reducible first | refine W ?_ | refine Wz0 ?_) | ((with_reducible first | refine Wo (fun K hK => ?_) | refine Wq ?_ | refine Wr ?_); (try simp only [go_sem, fN, seval, eT, iR, e1, e10, e11, e12, s6, ha]); (repeat with_reducible refine Ai ?_); (try (refine hK _ ?_; clear hK K))))
    with_reducible refine Wp ?_
    simp only [go_sem, fN, seval, true_implies, false_implies, implies_true, dT, dF, nL, e1]
    (try with_reducible refine iC ?_)
    refine ⟨fun hb => ?_, fun hb => ?_⟩
    · repeat' (first | (with_reducible first | refine W ?_ | refine Wz0 ?_) | ((with_reducible first | refine Wo (fun K hK => ?_) | refine Wq ?_ | refine Wr ?_); (try simp only [go_sem, fN, seval, eT, iR, e1]); (repeat with_reducible refine Ai ?_); (try (refine hK _ ?_; clear hK K))))
      simp only [go_sem, fN, seval, FinQ, AS.result, resAll, resOne, tupV, e1]
      rw [lessBy_neg hb (show _ ≤ t.size by rw [hs]; omega)]
    · repeat' (first | (with_reducible first | refine W ?_ | refine Wz0 ?_) | refine Cg _ (ih _ (Lm.lt_of_sub (mem_of_get ha)) a _ (by omega) (by omega) rfl) ?_ | ((with_reducible first | refine Wo (fun K hK => ?_) | refine Wq ?_ | refine Wr ?_); (try simp only [go_sem, fN, seval, eT, iR, e1, e10, e11, e12, s6, ha]); (repeat with_reducible refine Ai ?_); (try (refine hK _ ?_; clear hK K))))
      refine then_normal ⟨t.subs.length - (k + 1), by omega, k + 1, by omega, rfl, ?_⟩
      simp only [go_sem, fN, seval, AS.drop, dropS, AC.clears, AC.clear, AC.highs, AC.high, Bool.not_false, Bool.true_and, Bool.and_self, AV.purge, AV.purges, AC.purge, ABlk.purge, List.contains_cons, List.contains_nil, Nat.reduceBEq, Bool.or_self, Bool.or_false, Bool.false_or, Bool.or_true, eT, iR, e1, e10, e11, e12, s6]
      exact ⟨by rw [lessBy_step (by omega), z1]; congr 4; omega, by congr 3⟩
  · repeat' (first | (with_reducible first | refine W ?_ | refine Wz0 ?_) | ((with_reducible first | refine Wo (fun K hK => ?_) | refine Wq ?_ | refine Wr ?_); (try simp only [go_sem, fN, seval, eT, iR, e1]); (repeat with_reducible refine Ai ?_); (try (refine hK _ ?_; clear hK K))))
    simp only [go_sem, fN, seval, FinQ, AS.result, resAll, resOne, tupV, e1]
    rw [List.take_of_length_le (by omega), hs]
theorem lsize_a (t : Lm) (hz : t.size ≤ 1000000000) : ACalls Tryd.prog 15 [aLm t] (aInt t.size) := by
  induction h : SizeOf.sizeOf t using Nat.strongRecOn generalizing t with
  | _ N ih =>
  subst h
  have hs := Lm.size_eq t
  have hkn := Lm.length_le t.subs
  refine ok_lambda_Size.ac fun C hC => ?_
  unfold ir_lambda_Size
  repeat' (first | (with_reducible first | refine W ?_ | refine Wz0 ?_) | ((with_reducible first | refine Wo (fun K hK => ?_) | refine Wq ?_ | refine Wr ?_); (try simp only [go_sem, fN, seval, eT, iR]); (repeat with_reducible refine Ai ?_); (try (refine hK _ ?_; clear hK K))))
  refine IWP.loopD [5] (fun n s => ∃ k, k ≤ t.subs.length ∧ n = t.subs.length - k ∧ s.env 3 = aInt ((1 + Lm.sizes (t.subs.take k) : Nat)) ∧ s.env 7 = .one (.st (.list (t.subs.map encL))) ∧ s.env 8 = aInt t.subs.length ∧ s.env 9 = aInt k ∧ s.S 5 = none) t.subs.length ⟨0, Nat.zero_le _, rfl, rfl, rfl, rfl, rfl, rfl⟩ ?_
  rintro n ⟨env, S⟩ ⟨k, hk, rfl, e3, e7, e8, e9, s5⟩
  simp only at e3 e7 e8 e9 s5
  repeat' (first | (with_reducible first | refine W ?_ | refine Wz0 ?_) | ((with_reducible first | refine Wo (fun K hK => ?_) | refine Wq ?_ | refine Wr ?_); (try simp only [go_sem, fN, seval, eT, iR, e3, e7, e8, e9, s5]); (repeat with_reducible refine Ai ?_); (try (refine hK _ ?_; clear hK K))))
  with_reducible refine Wp ?_
  simp only [go_sem, fN, seval, true_implies, false_implies, implies_true, dT, dF, nL, e3, e7, e8, e9, s5]
  (try with_reducible refine iC ?_)
  refine ⟨fun hlt => ?_, fun hge => ?_⟩
  · obtain ⟨a, ha⟩ := get_lt (show k < t.subs.length by omega)
    have z1 := Lm.sizes_take ha
    have z2 := Lm.sizes_take_le t.subs (k + 1)
    have z3 := Lm.size_mem (mem_of_get ha)
    repeat' (first | (with_reducible first | refine W ?_ | refine Wz0 ?_) | refine Cg _ (ih _ (Lm.lt_of_sub (mem_of_get ha)) a (by omega) rfl) ?_ | ((with_reducible first | refine Wo (fun K hK => ?_) | refine Wq ?_ | refine Wr ?_); (try simp only [go_sem, fN, seval, eT, iR, e3, e7, e8, e9, s5, ha]); (repeat with_reducible refine Ai ?_); (try (refine hK _ ?_; clear hK K))))
    refine then_normal ⟨t.subs.length - (k + 1), by omega, k + 1, by omega, rfl, ?_⟩
    simp only [go_sem, fN, seval, AS.drop, dropS, AC.clears, AC.clear, AC.highs, AC.high, Bool.not_false, Bool.true_and, Bool.and_self, AV.purge, AV.purges, AC.purge, ABlk.purge, List.contains_cons, List.contains_nil, Nat.reduceBEq, Bool.or_self, Bool.or_false, Bool.false_or, Bool.or_true, eT, iR, e3, e7, e8, e9, s5]
    exact ⟨by rw [z1]; congr 3; omega, by congr 3⟩
  · repeat' (first | (with_reducible first | refine W ?_ | refine Wz0 ?_) | ((with_reducible first | refine Wo (fun K hK => ?_) | refine Wq ?_ | refine Wr ?_); (try simp only [go_sem, fN, seval, eT, iR, e3]); (repeat with_reducible refine Ai ?_); (try (refine hK _ ?_; clear hK K))))
    simp only [go_sem, fN, seval, FinQ, AS.result, resAll, resOne, tupV, e3]
    rw [List.take_of_length_le (by omega), hs]
theorem kinds_of {k : Int} (h : 1 ≤ k ∧ k ≤ 5) : k = 1 ∨ k = 2 ∨ k = 3 ∨ k = 4 ∨ k = 5 := by omega
set_option maxHeartbeats 1000000 in
theorem lcheck_a (t : Lm) (u m : Int) (hu : 0 ≤ u) (hz : u + t.size ≤ 1000000000) : ACalls Tryd.prog 36 [aLm t, aInt u, aInt m] (aInt (t.chk m u)) := by
  induction h : SizeOf.sizeOf t using Nat.strongRecOn generalizing t u with
  | _ N ih =>
  subst h
  have hs := Lm.size_eq t
  have hlen := Lm.length_le t.subs
  refine ok_lambda_check.ac fun C hC => ?_
  unfold ir_lambda_check
  by_cases hk : 1 ≤ t.kind ∧ t.kind ≤ 5
  case neg =>
    rw [Lm.chk_eq, if_neg (fun h => hk ⟨h.1, h.2.1⟩)]
    by_cases h1 : t.kind < 1
    · repeat' (first | (with_reducible first | refine W ?_ | refine Wz0 ?_) | ((with_reducible first | refine Wo (fun K hK => ?_) | refine Wp ?_ | refine Wq ?_ | refine Wr ?_); (try simp only [go_sem, fN, seval, eT, iR, h1, dT, dF, nL]); (repeat with_reducible refine Ai ?_); (try (refine hK _ ?_; clear hK K)); (try with_reducible refine iC ?_)))
      simp only [go_sem, fN, seval, FinQ, AS.result, resAll, resOne, tupV]
    · have h5 : 5 < t.kind := by omega
      repeat' (first | (with_reducible first | refine W ?_ | refine Wz0 ?_) | ((with_reducible first | refine Wo (fun K hK => ?_) | refine Wp ?_ | refine Wq ?_ | refine Wr ?_); (try simp only [go_sem, fN, seval, eT, iR, h1, h5, dT, dF, nL]); (repeat with_reducible refine Ai ?_); (try (refine hK _ ?_; clear hK K)); (try with_reducible refine iC ?_)))
      simp only [go_sem, fN, seval, FinQ, AS.result, resAll, resOne, tupV]
  case pos =>
  have hk5 := kinds_of hk
  have q1 : ¬ t.kind < 1 := by omega
  have q5 : ¬ 5 < t.kind := by omega
  by_cases hl : (t.subs.length : Int) = nSubs t.kind
  case neg =>
    rw [Lm.chk_eq, if_neg (fun h => hl h.2.2)]
    rcases hk5 with hk5 | hk5 | hk5 | hk5 | hk5
    all_goals
      simp only [hk5, nSubs, Int.reduceEq, ↓reduceIte] at hl
      repeat' (first | (with_reducible first | refine W ?_ | refine Wz0 ?_) | ((with_reducible first | refine Wo (fun K hK => ?_) | refine Wp ?_ | refine Wq ?_ | refine Wr ?_); (try simp only [go_sem, fN, seval, eT, iR, hk5, hl, dT, dF, nL]); (repeat with_reducible refine Ai ?_); (try (refine hK _ ?_; clear hK K)); (try with_reducible refine iC ?_)))
      simp only [go_sem, fN, seval, FinQ, AS.result, resAll, resOne, tupV]
  case pos =>
  by_cases h0 : t.idx < 0
  case pos =>
    rw [Lm.chk_eq, if_pos ⟨hk.1, hk.2, hl⟩, if_neg (fun h => by omega)]
    rcases hk5 with hk5 | hk5 | hk5 | hk5 | hk5
    all_goals
      simp only [hk5, nSubs, Int.reduceEq, ↓reduceIte] at hl
      repeat' (first | (with_reducible first | refine W ?_ | refine Wz0 ?_) | ((with_reducible first | refine Wo (fun K hK => ?_) | refine Wp ?_ | refine Wq ?_ | refine Wr ?_); (try simp only [go_sem, fN, seval, eT, iR, hk5, hl, h0, dT, dF, nL]); (repeat with_reducible refine Ai ?_); (try (refine hK _ ?_; clear hK K)); (try with_reducible refine iC ?_)))
      simp only [go_sem, fN, seval, FinQ, AS.result, resAll, resOne, tupV]
  case neg =>
  by_cases hm : mostIdx t.kind u m ≤ t.idx
  case pos =>
    rw [Lm.chk_eq, if_pos ⟨hk.1, hk.2, hl⟩, if_neg (fun h => by omega)]
    rcases hk5 with hk5 | hk5 | hk5 | hk5 | hk5
    all_goals
      simp only [hk5, nSubs, mostIdx, Int.reduceEq, ↓reduceIte] at hl hm
      repeat' (first | (with_reducible first | refine W ?_ | refine Wz0 ?_) | ((with_reducible first | refine Wo (fun K hK => ?_) | refine Wp ?_ | refine Wq ?_ | refine Wr ?_); (try simp only [go_sem, fN, seval, eT, iR, hk5, hl, h0, hm, dT, dF, nL]); (repeat with_reducible refine Ai ?_); (try (refine hK _ ?_; clear hK K)); (try with_reducible refine iC ?_)))
      simp only [go_sem, fN, seval, FinQ, AS.result, resAll, resOne, tupV]
  case neg =>
  rw [Lm.chk_eq, if_pos ⟨hk.1, hk.2, hl⟩, if_pos (by omega)]
  rcases hk5 with hk5 | hk5 | hk5 | hk5 | hk5
  all_goals
    simp only [hk5, nSubs, mostIdx, Int.reduceEq, ↓reduceIte] at hl hm
    repeat' (first | (with_reducible first | refine W ?_ | refine Wz0 ?_) | ((with_reducible first | refine Wo (fun K hK => ?_) | refine Wp ?_ | refine Wq ?_ | refine Wr ?_); (try simp only [go_sem, fN, seval, eT, iR, hk5, hl, h0, hm, dT, dF, nL]); (repeat with_reducible refine Ai ?_); (try (refine hK _ ?_; clear hK K)); (try with_reducible refine iC ?_)))
    refine IWP.loopD [9] (fun n s => ∃ k, k ≤ t.subs.length ∧ n = t.subs.length - k ∧ Lm.chks m (t.subs.take k) (under t.kind u) = 0 ∧ s.env 1 = aInt (under t.kind u) ∧ s.env 2 = aInt m ∧ s.env 54 = .one (.st (.list (t.subs.map encL))) ∧ s.env 55 = aInt t.subs.length ∧ s.env 56 = aInt k ∧ s.S 9 = none) t.subs.length ⟨0, Nat.zero_le _, rfl, rfl, by simp only [hk5, under]; rfl, rfl, rfl, by simp only [go_sem, fN, seval, eT, iR, hl], rfl, rfl⟩ ?_
    rintro n ⟨env, S⟩ ⟨k, hk', rfl, hc, e1, e2, e54, e55, e56, s9⟩
    simp only at e1 e2 e54 e55 e56 s9
    by_cases hlt : (k : Int) < t.subs.length
    · obtain ⟨a, ha⟩ := get_lt (show k < t.subs.length by omega)
      have z3 := Lm.size_mem (mem_of_get ha)
      have hu2 : under t.kind u ≤ u + 1 ∧ 0 ≤ under t.kind u := by unfold under; split <;> omega
      repeat' (first | (with_reducible first | refine W ?_ | refine Wz0 ?_) | ((with_reducible first | refine Wo (fun K hK => ?_) | refine Wp ?_ | refine Wq ?_ | refine Wr ?_); (try simp only [go_sem, fN, seval, eT, iR, e1, e2, e54, e55, e56, s9, ha, hlt, dT, dF, nL]); (repeat with_reducible refine Ai ?_); (try (refine hK _ ?_; clear hK K)); (try with_reducible refine iC ?_)))
      refine ⟨_, ih _ (Lm.lt_of_sub (mem_of_get ha)) a (under t.kind u) hu2.2 (by omega) rfl, ?_⟩
      by_cases hr : a.chk m (under t.kind u) = 0
      · repeat' (first | (with_reducible first | refine W ?_ | refine Wz0 ?_) | ((with_reducible first | refine Wo (fun K hK => ?_) | refine Wp ?_ | refine Wq ?_ | refine Wr ?_); (try simp only [go_sem, fN, seval, eT, iR, e1, e2, e54, e55, e56, s9, hr, dT, dF, nL]); (repeat with_reducible refine Ai ?_); (try (refine hK _ ?_; clear hK K)); (try with_reducible refine iC ?_)))
        refine then_normal ⟨t.subs.length - (k + 1), by omega, k + 1, by omega, rfl, ?_⟩
        simp only [go_sem, fN, seval, AS.drop, dropS, AC.clears, AC.clear, AC.highs, AC.high, Bool.not_false, Bool.true_and, Bool.and_self, AV.purge, AV.purges, AC.purge, ABlk.purge, List.contains_cons, List.contains_nil, Nat.reduceBEq, Bool.or_self, Bool.or_false, Bool.false_or, Bool.or_true, eT, iR, e1, e2, e54, e55, e56, s9]
        exact ⟨by rw [Lm.chks_take ha hc, hr], by congr 3⟩
      · repeat' (first | (with_reducible first | refine W ?_ | refine Wz0 ?_) | ((with_reducible first | refine Wo (fun K hK => ?_) | refine Wp ?_ | refine Wq ?_ | refine Wr ?_); (try simp only [go_sem, fN, seval, eT, iR, e1, e2, e54, e55, e56, s9, hr, dT, dF, nL]); (repeat with_reducible refine Ai ?_); (try (refine hK _ ?_; clear hK K)); (try with_reducible refine iC ?_)))
        simp only [go_sem, fN, seval, FinQ, AS.result, resAll, resOne, tupV]
        simp only [hk5] at hc hr ⊢
        rw [Lm.chks_bad (k := k + 1) (by rw [Lm.chks_take ha hc]; exact hr), Lm.chks_take ha hc]
    · repeat' (first | (with_reducible first | refine W ?_ | refine Wz0 ?_) | ((with_reducible first | refine Wo (fun K hK => ?_) | refine Wp ?_ | refine Wq ?_ | refine Wr ?_); (try simp only [go_sem, fN, seval, eT, iR, e1, e2, e54, e55, e56, s9, hlt, dT, dF, nL]); (repeat with_reducible refine Ai ?_); (try (refine hK _ ?_; clear hK K)); (try with_reducible refine iC ?_)))
      simp only [go_sem, fN, seval, FinQ, AS.result, resAll, resOne, tupV]
      rw [List.take_of_length_le (by omega)] at hc
      simp only [hk5] at hc ⊢
      rw [hc]
theorem lessBy_neg_iff {s : Nat} {m : Int} (h : 0 ≤ m) : lessBy s m < 0 ↔ m < s := by
  unfold lessBy
  split <;> omega
theorem lcheckWith_a (t : Lm) (u m : Int) : ACalls Tryd.prog 25 [aLm t, aInt u, aInt m] (aInt (t.may m u)) := by
  refine ok_lambda_CheckWith.ac fun C hC => ?_
  unfold ir_lambda_CheckWith
  unfold Lm.may
  by_cases h0 : u < 0
  · rw [if_pos (Or.inl h0)]
    repeat' (first | (with_reducible first | refine W ?_ | refine Wz0 ?_) | ((with_reducible first | refine Wo (fun K hK => ?_) | refine Wp ?_ | refine Wq ?_ | refine Wr ?_); (try simp only [go_sem, fN, seval, eT, iR, h0, dT, dF, nL]); (repeat with_reducible refine Ai ?_); (try (refine hK _ ?_; clear hK K)); (try with_reducible refine iC ?_)))
    simp only [go_sem, fN, seval, FinQ, AS.result, resAll, resOne, tupV]
  by_cases h1 : 40 < u
  · rw [if_pos (Or.inr h1)]
    repeat' (first | (with_reducible first | refine W ?_ | refine Wz0 ?_) | ((with_reducible first | refine Wo (fun K hK => ?_) | refine Wp ?_ | refine Wq ?_ | refine Wr ?_); (try simp only [go_sem, fN, seval, eT, iR, h0, h1, dT, dF, nL]); (repeat with_reducible refine Ai ?_); (try (refine hK _ ?_; clear hK K)); (try with_reducible refine iC ?_)))
    simp only [go_sem, fN, seval, FinQ, AS.result, resAll, resOne, tupV]
  rw [if_neg (by omega)]
  have hw := @lessBy_neg_iff t.size 200 (by decide)
  by_cases hz : 200 < t.size
  · have hz' := hw.2 (by omega)
    rw [if_pos hz]
    repeat' (first | (with_reducible first | refine W ?_ | refine Wz0 ?_) | refine Cg _ (lwithin_a t 200 (by decide) (by decide)) ?_ | ((with_reducible first | refine Wo (fun K hK => ?_) | refine Wp ?_ | refine Wq ?_ | refine Wr ?_); (try simp only [go_sem, fN, seval, eT, iR, h0, h1, hz', dT, dF, nL]); (repeat with_reducible refine Ai ?_); (try (refine hK _ ?_; clear hK K)); (try with_reducible refine iC ?_)))
    simp only [go_sem, fN, seval, FinQ, AS.result, resAll, resOne, tupV]
  · have hz' : ¬ lessBy t.size 200 < 0 := fun h => hz (by have := hw.1 h; omega)
    rw [if_neg hz]
    repeat' (first | (with_reducible first | refine W ?_ | refine Wz0 ?_) | refine Cg _ (lwithin_a t 200 (by decide) (by decide)) ?_ | refine Cg _ (lcheck_a t u m (by omega) (by omega)) ?_ | ((with_reducible first | refine Wo (fun K hK => ?_) | refine Wp ?_ | refine Wq ?_ | refine Wr ?_); (try simp only [go_sem, fN, seval, eT, iR, h0, h1, hz', dT, dF, nL]); (repeat with_reducible refine Ai ?_); (try (refine hK _ ?_; clear hK K)); (try with_reducible refine iC ?_)))
    simp only [go_sem, fN, seval, FinQ, AS.result, resAll, resOne, tupV]
theorem lCheck_a (t : Lm) (u : Int) : ACalls Tryd.prog 13 [aLm t, aInt u] (aInt (t.may 0 u)) := by
  refine ok_lambda_Check.ac fun C hC => ?_
  unfold ir_lambda_Check
  repeat' (first | (with_reducible first | refine W ?_ | refine Wz0 ?_) | refine Cg _ (lcheckWith_a t u 0) ?_ | ((with_reducible first | refine Wo (fun K hK => ?_) | refine Wp ?_ | refine Wq ?_ | refine Wr ?_); (try simp only [go_sem, fN, seval, eT, iR, dT, dF, nL]); (repeat with_reducible refine Ai ?_); (try (refine hK _ ?_; clear hK K)); (try with_reducible refine iC ?_)))
  simp only [go_sem, fN, seval, FinQ, AS.result, resAll, resOne, tupV]

theorem lV_a (i : Int) : ACalls Tryd.prog 38 [aInt i] (aLm (.mk 1 i [])) := by
  refine ok_lambda_V.ac fun C hC => ?_
  unfold ir_lambda_V
  repeat' (first | (with_reducible first | refine W ?_ | refine Wz0 ?_) | ((with_reducible first | refine Wo (fun K hK => ?_) | refine Wp ?_ | refine Wq ?_ | refine Wr ?_); (try simp only [go_sem, fN, seval, eT, iR, dT, dF, nL]); (repeat with_reducible refine Ai ?_); (try (refine hK _ ?_; clear hK K)); (try with_reducible refine iC ?_)))
  simp only [go_sem, fN, seval, FinQ, AS.result, resAll, resOne, tupV]
  rfl
theorem lVar_a (i : Int) : ACalls Tryd.prog 17 [aInt i] (aLm (.mk 1 i [])) := by
  refine ok_R_Var.ac fun C hC => ?_
  unfold ir_R_Var
  repeat' (first | (with_reducible first | refine W ?_ | refine Wz0 ?_) | ((with_reducible first | refine Wo (fun K hK => ?_) | refine Wp ?_ | refine Wq ?_ | refine Wr ?_); (try simp only [go_sem, fN, seval, eT, iR, dT, dF, nL]); (repeat with_reducible refine Ai ?_); (try (refine hK _ ?_; clear hK K)); (try with_reducible refine iC ?_)))
  simp only [go_sem, fN, seval, FinQ, AS.result, resAll, resOne, tupV]
  rfl
theorem lmove_a (t : Lm) (b d : Int) (hg : t.good 1000000000) (hb : -1 ≤ b ∧ b ≤ 1000000000) (hd : 0 ≤ d) (hz : d + t.size ≤ 1000000000) : ACalls Tryd.prog 37 [aLm t, aInt b, aInt d] (aLm (Lm.mv b d t)) := by
  induction h : SizeOf.sizeOf t using Nat.strongRecOn generalizing t d with
  | _ N ih =>
  subst h
  have hs := Lm.size_eq t
  have hlen := Lm.length_le t.subs
  obtain ⟨g1, g2, g3, g4⟩ := (Lm.good_eq _ _).1 hg
  have hu2 : under t.kind d ≤ d + 1 ∧ 0 ≤ under t.kind d := by unfold under; split <;> omega
  rw [Lm.mv_eq]
  have hcase : (t.kind = 1 ∧ d ≤ t.idx) ∨ (t.kind = 1 ∧ ¬ d ≤ t.idx) ∨ (¬ t.kind = 1 ∧ t.kind = 2) ∨ (¬ t.kind = 1 ∧ ¬ t.kind = 2) := by omega
  rcases hcase with ⟨k1, k2⟩ | ⟨k1, k2⟩ | ⟨k1, k2⟩ | ⟨k1, k2⟩
  all_goals
    refine ok_lambda_Move.ac fun C hC => ?_
    unfold ir_lambda_Move
    repeat' (first | (with_reducible first | refine W ?_ | refine Wz0 ?_) | ((with_reducible first | refine Wo (fun K hK => ?_) | refine Wp ?_ | refine Wq ?_ | refine Wr ?_); (try simp only [go_sem, fN, seval, eT, iR, k1, k2, dT, dF, nL]); (repeat with_reducible refine Ai ?_); (try (refine hK _ ?_; clear hK K)); (try with_reducible refine iC ?_)))
    refine IWP.ghost (Ghost.ownC 7 2 21 25 3 (xs := ([] : List Lm).map encL) rfl rfl rfl lens_encL) ?_
    refine IWP.loopD [9] (fun n s => ∃ k, k ≤ t.subs.length ∧ n = t.subs.length - k ∧ s.env 1 = aInt b ∧ s.env 2 = aInt (under t.kind d) ∧ s.env 6 = .one (.ptr 6 1 0 0) ∧ s.env 7 = .one (.ptr 7 1 0 0) ∧ s.S 6 = some (.box 25 [.st (.int .i64 0), .st (.int .i64 0), .full []])
      ∧ s.S 7 = some (.box 25 [.st (.int .i64 t.kind), .st (.int .i64 (if t.kind = 1 ∧ d ≤ t.idx then t.idx + b else t.idx)), .row 21 k]) ∧ s.S 21 = some (.arow 25 3 (((t.subs.take k).map (Lm.mv b (under t.kind d))).map encL)) ∧ s.env 33 = .one (.st (.list (t.subs.map encL))) ∧ s.env 34 = aInt t.subs.length ∧ s.env 35 = aInt k ∧ s.S 9 = none) t.subs.length
      ⟨0, Nat.zero_le _, rfl, rfl, by simp only [k1, k2, under, Int.reduceEq, ↓reduceIte]; rfl, rfl, rfl, rfl, by simp only [k1, k2, and_self, and_false, and_true, true_and, false_and, if_true, if_false, not_false_eq_true, Int.reduceEq, ↓reduceIte]; rfl, rfl, rfl, rfl, rfl, rfl⟩ ?_
    rintro n ⟨env, S⟩ ⟨k, hk', rfl, e1, e2, e6, e7, s6, s7, s21, e33, e34, e35, s9⟩
    simp only at e1 e2 e6 e7 s6 s7 s21 e33 e34 e35 s9
    have hlk : (t.subs.take k).length = k := by rw [List.length_take]; omega
    by_cases hlt : (k : Int) < t.subs.length
    · obtain ⟨a, ha⟩ := get_lt (show k < t.subs.length by omega)
      have z3 := Lm.size_mem (mem_of_get ha)
      repeat' (first | (with_reducible first | refine W ?_ | refine Wz0 ?_) | refine Cg _ (ih _ (Lm.lt_of_sub (mem_of_get ha)) a (under t.kind d) (Lm.good_sub hg (mem_of_get ha)) hu2.2 (by omega) rfl) ?_ | ((with_reducible first | refine Wo (fun K hK => ?_) | refine Wp ?_ | refine Wq ?_ | refine Wr ?_); (try simp only [go_sem, fN, seval, eT, iR, e1, e2, e6, e7, s6, s7, s21, e33, e34, e35, s9, ha, hlt, hlk, dT, dF, nL]); (repeat with_reducible refine Ai ?_); (try (refine hK _ ?_; clear hK K)); (try with_reducible refine iC ?_)))
      refine then_normal ⟨t.subs.length - (k + 1), by omega, k + 1, by omega, rfl, ?_⟩
      simp only [go_sem, fN, seval, AS.drop, dropS, AC.clears, AC.clear, AC.highs, AC.high, Bool.not_false, Bool.true_and, Bool.and_self, AV.purge, AV.purges, AC.purge, ABlk.purge, List.contains_cons, List.contains_nil, Nat.reduceBEq, Bool.or_self, Bool.or_false, Bool.false_or, Bool.or_true, eT, iR, e1, e2, e6, e7, s6, s7, s21, e33, e34, e35, s9]
      exact ⟨by rw [take_snoc ha]; simp [encL_eq], by congr 3⟩
    · repeat' (first | (with_reducible first | refine W ?_ | refine Wz0 ?_) | ((with_reducible first | refine Wo (fun K hK => ?_) | refine Wp ?_ | refine Wq ?_ | refine Wr ?_); (try simp only [go_sem, fN, seval, eT, iR, e1, e2, e6, e7, s6, s7, s21, e33, e34, e35, s9, hlt, dT, dF, nL]); (repeat with_reducible refine Ai ?_); (try (refine hK _ ?_; clear hK K)); (try with_reducible refine iC ?_)))
      have hall : t.subs.take k = t.subs := List.take_of_length_le (by omega)
      rw [hall] at s21
      have hkl : k = t.subs.length := by omega
      simp only [go_sem, fN, seval, FinQ, AS.result, resAll, resOne, tupV, e6, s6, s7, s21, hkl]
      simp [k1, k2, Lm.kind_mk, Lm.idx_mk, Lm.subs_mk]
theorem lhigher_a (t : Lm) (b d : Int) (hg : t.good 1000000000) (hb : -1 ≤ b ∧ b ≤ 1000000000) (hd : 0 ≤ d) (hz : d + t.size ≤ 1000000000) : ACalls Tryd.prog 8 [aLm t, aInt b, aInt d] (aLm (Lm.mv b d t)) := by
  induction h : SizeOf.sizeOf t using Nat.strongRecOn generalizing t d with
  | _ N ih =>
  subst h
  have hs := Lm.size_eq t
  have hlen := Lm.length_le t.subs
  obtain ⟨g1, g2, g3, g4⟩ := (Lm.good_eq _ _).1 hg
  have hu2 : under t.kind d ≤ d + 1 ∧ 0 ≤ under t.kind d := by unfold under; split <;> omega
  rw [Lm.mv_eq]
  by_cases k1 : t.kind = 1
  · have g1 := g1 k1
    by_cases k2 : t.idx < d
    · have k3 : ¬ d ≤ t.idx := by omega
      refine ok_R_Higher.ac fun C hC => ?_
      unfold ir_R_Higher
      repeat' (first | (with_reducible first | refine W ?_ | refine Wz0 ?_) | ((with_reducible first | refine Wo (fun K hK => ?_) | refine Wp ?_ | refine Wq ?_ | refine Wr ?_); (try simp only [go_sem, fN, seval, eT, iR, k1, k2, dT, dF, nL]); (repeat with_reducible refine Ai ?_); (try (refine hK _ ?_; clear hK K)); (try with_reducible refine iC ?_)))
      simp only [go_sem, fN, seval, FinQ, AS.result, resAll, resOne, tupV]
      simp [k1, k3, g1, Lm.kind_mk, Lm.idx_mk, Lm.subs_mk]
    · have k3 : d ≤ t.idx := by omega
      refine ok_R_Higher.ac fun C hC => ?_
      unfold ir_R_Higher
      repeat' (first | (with_reducible first | refine W ?_ | refine Wz0 ?_) | refine Cg _ (lVar_a (t.idx + b)) ?_ | ((with_reducible first | refine Wo (fun K hK => ?_) | refine Wp ?_ | refine Wq ?_ | refine Wr ?_); (try simp only [go_sem, fN, seval, eT, iR, k1, k2, dT, dF, nL]); (repeat with_reducible refine Ai ?_); (try (refine hK _ ?_; clear hK K)); (try with_reducible refine iC ?_)))
      simp only [go_sem, fN, seval, FinQ, AS.result, resAll, resOne, tupV]
      simp [k1, k3, g1, Lm.kind_mk, Lm.idx_mk, Lm.subs_mk]
  have hcase : t.kind = 2 ∨ ¬ t.kind = 2 := by omega
  rcases hcase with k2 | k2
  all_goals
    refine ok_R_Higher.ac fun C hC => ?_
    unfold ir_R_Higher
    repeat' (first | (with_reducible first | refine W ?_ | refine Wz0 ?_) | ((with_reducible first | refine Wo (fun K hK => ?_) | refine Wp ?_ | refine Wq ?_ | refine Wr ?_); (try simp only [go_sem, fN, seval, eT, iR, k1, k2, dT, dF, nL]); (repeat with_reducible refine Ai ?_); (try (refine hK _ ?_; clear hK K)); (try with_reducible refine iC ?_)))
    refine IWP.ghost (Ghost.ownC 7 2 21 25 3 (xs := ([] : List Lm).map encL) rfl rfl rfl lens_encL) ?_
    refine IWP.loop (fun n s => ∃ k, k ≤ t.subs.length ∧ n = t.subs.length - k ∧ s.env 1 = aInt b ∧ s.env 2 = aInt (under t.kind d) ∧ s.env 3 = .one (.ptr 3 1 0 0) ∧ s.env 6 = .one (.ptr 6 1 0 0) ∧ s.env 7 = .one (.ptr 7 1 0 0) ∧ s.S 3 = some (.box 25 [.st (.int .i64 t.kind), .st (.int .i64 t.idx), .st (.list (t.subs.map encL))]) ∧ s.S 6 = some (.box 25 [.st (.int .i64 0), .st (.int .i64 0), .full []])
      ∧ s.S 7 = some (.box 25 [.st (.int .i64 t.kind), .st (.int .i64 t.idx), .row 21 k]) ∧ s.S 21 = some (.arow 25 3 (((t.subs.take k).map (Lm.mv b (under t.kind d))).map encL)) ∧ s.env 8 = aInt k) t.subs.length
      ⟨0, Nat.zero_le _, rfl, rfl, by simp only [k1, k2, under, Int.reduceEq, ↓reduceIte]; rfl, rfl, rfl, rfl, by first | rfl | (simp only [k1, k2]; rfl), rfl, by first | rfl | (simp only [k1, k2]; rfl), rfl, rfl⟩ ?_
    rintro n ⟨env, S⟩ ⟨k, hk', rfl, e1, e2, e3, e6, e7, s3, s6, s7, s21, e8⟩
    simp only at e1 e2 e3 e6 e7 s3 s6 s7 s21 e8
    have hlk : (t.subs.take k).length = k := by rw [List.length_take]; omega
    by_cases hlt : (k : Int) < t.subs.length
    · obtain ⟨a, ha⟩ := get_lt (show k < t.subs.length by omega)
      have z3 := Lm.size_mem (mem_of_get ha)
      repeat' (first | (with_reducible first | refine W ?_ | refine Wz0 ?_) | refine Cg _ (ih _ (Lm.lt_of_sub (mem_of_get ha)) a (under t.kind d) (Lm.good_sub hg (mem_of_get ha)) hu2.2 (by omega) rfl) ?_ | ((with_reducible first | refine Wo (fun K hK => ?_) | refine Wp ?_ | refine Wq ?_ | refine Wr ?_); (try simp only [go_sem, fN, seval, eT, iR, e1, e2, e3, e6, e7, s3, s6, s7, s21, e8, ha, hlt, hlk, dT, dF, nL]); (repeat with_reducible refine Ai ?_); (try (refine hK _ ?_; clear hK K)); (try with_reducible refine iC ?_)))
      refine then_normal ⟨t.subs.length - (k + 1), by omega, k + 1, by omega, rfl, ?_⟩
      simp only [go_sem, fN, seval, eT, iR, e1, e2, e3, e6, e7, s3, s6, s7, s21, e8]
      exact ⟨by rw [take_snoc ha]; simp [encL_eq], by congr 3⟩
    · repeat' (first | (with_reducible first | refine W ?_ | refine Wz0 ?_) | ((with_reducible first | refine Wo (fun K hK => ?_) | refine Wp ?_ | refine Wq ?_ | refine Wr ?_); (try simp only [go_sem, fN, seval, eT, iR, e1, e2, e3, e6, e7, s3, s6, s7, s21, e8, hlt, dT, dF, nL]); (repeat with_reducible refine Ai ?_); (try (refine hK _ ?_; clear hK K)); (try with_reducible refine iC ?_)))
      have hall : t.subs.take k = t.subs := List.take_of_length_le (by omega)
      rw [hall] at s21
      have hkl : k = t.subs.length := by omega
      simp only [go_sem, fN, seval, FinQ, AS.result, resAll, resOne, tupV, e6, s6, s7, s21, hkl]
      simp [k1, k2, Lm.kind_mk, Lm.idx_mk, Lm.subs_mk]
theorem linto_a (t x : Lm) (d : Int) (hg : t.good 1000000000) (hx : x.good 1000000000) (hxz : x.size ≤ 1000000000) (hd : 0 ≤ d) (hz : d + t.size ≤ 1000000000) : ACalls Tryd.prog 26 [aLm t, aLm x, aInt d] (aLm (Lm.put x d t)) := by
  induction h : SizeOf.sizeOf t using Nat.strongRecOn generalizing t d with
  | _ N ih =>
  subst h
  have hs := Lm.size_eq t
  have hlen := Lm.length_le t.subs
  obtain ⟨g1, g2, g3, g4⟩ := (Lm.good_eq _ _).1 hg
  have hu2 : under t.kind d ≤ d + 1 ∧ 0 ≤ under t.kind d := by unfold under; split <;> omega
  rw [Lm.put_eq]
  by_cases k1 : t.kind = 1
  · have g1 := g1 k1
    by_cases k2 : t.idx = d
    · refine ok_lambda_into.ac fun C hC => ?_
      unfold ir_lambda_into
      repeat' (first | (with_reducible first | refine W ?_ | refine Wz0 ?_) | refine Cg _ (lmove_a x d 0 hx (by omega) (by omega) (by omega)) ?_ | ((with_reducible first | refine Wo (fun K hK => ?_) | refine Wp ?_ | refine Wq ?_ | refine Wr ?_); (try simp only [go_sem, fN, seval, eT, iR, k1, k2, dT, dF, nL]); (repeat with_reducible refine Ai ?_); (try (refine hK _ ?_; clear hK K)); (try with_reducible refine iC ?_)))
      simp only [go_sem, fN, seval, FinQ, AS.result, resAll, resOne, tupV]
      try simp [k1, k2]
    · by_cases k3 : d < t.idx
      · refine ok_lambda_into.ac fun C hC => ?_
        unfold ir_lambda_into
        repeat' (first | (with_reducible first | refine W ?_ | refine Wz0 ?_) | refine Cg _ (lV_a (t.idx - 1)) ?_ | ((with_reducible first | refine Wo (fun K hK => ?_) | refine Wp ?_ | refine Wq ?_ | refine Wr ?_); (try simp only [go_sem, fN, seval, eT, iR, k1, k2, k3, dT, dF, nL]); (repeat with_reducible refine Ai ?_); (try (refine hK _ ?_; clear hK K)); (try with_reducible refine iC ?_)))
        simp only [go_sem, fN, seval, FinQ, AS.result, resAll, resOne, tupV]
        simp [k1, k2, k3, Lm.kind_mk, Lm.idx_mk, Lm.subs_mk]
      · refine ok_lambda_into.ac fun C hC => ?_
        unfold ir_lambda_into
        repeat' (first | (with_reducible first | refine W ?_ | refine Wz0 ?_) | refine Cg _ (lV_a t.idx) ?_ | ((with_reducible first | refine Wo (fun K hK => ?_) | refine Wp ?_ | refine Wq ?_ | refine Wr ?_); (try simp only [go_sem, fN, seval, eT, iR, k1, k2, k3, dT, dF, nL]); (repeat with_reducible refine Ai ?_); (try (refine hK _ ?_; clear hK K)); (try with_reducible refine iC ?_)))
        simp only [go_sem, fN, seval, FinQ, AS.result, resAll, resOne, tupV]
        simp [k1, k2, k3, Lm.kind_mk, Lm.idx_mk, Lm.subs_mk]
  have hcase : t.kind = 2 ∨ ¬ t.kind = 2 := by omega
  rcases hcase with k2 | k2
  all_goals
    refine ok_lambda_into.ac fun C hC => ?_
    unfold ir_lambda_into
    repeat' (first | (with_reducible first | refine W ?_ | refine Wz0 ?_) | ((with_reducible first | refine Wo (fun K hK => ?_) | refine Wp ?_ | refine Wq ?_ | refine Wr ?_); (try simp only [go_sem, fN, seval, eT, iR, k1, k2, dT, dF, nL]); (repeat with_reducible refine Ai ?_); (try (refine hK _ ?_; clear hK K)); (try with_reducible refine iC ?_)))
    refine IWP.ghost (Ghost.ownC 7 2 21 25 3 (xs := ([] : List Lm).map encL) rfl rfl rfl lens_encL) ?_
    refine IWP.loopD [9] (fun n s => ∃ k, k ≤ t.subs.length ∧ n = t.subs.length - k ∧ s.env 2 = aInt (under t.kind d) ∧ s.env 4 = .one (.ptr 4 1 0 0) ∧ s.env 6 = .one (.ptr 6 1 0 0) ∧ s.env 7 = .one (.ptr 7 1 0 0) ∧ s.S 4 = some (.box 25 [.st (.int .i64 x.kind), .st (.int .i64 x.idx), .st (.list (x.subs.map encL))]) ∧ s.S 6 = some (.box 25 [.st (.int .i64 0), .st (.int .i64 0), .full []])
      ∧ s.S 7 = some (.box 25 [.st (.int .i64 t.kind), .st (.int .i64 t.idx), .row 21 k]) ∧ s.S 21 = some (.arow 25 3 (((t.subs.take k).map (Lm.put x (under t.kind d))).map encL)) ∧ s.env 44 = .one (.st (.list (t.subs.map encL))) ∧ s.env 45 = aInt t.subs.length ∧ s.env 46 = aInt k ∧ s.S 9 = none) t.subs.length
      ⟨0, Nat.zero_le _, rfl, by simp only [k1, k2, under, Int.reduceEq, ↓reduceIte]; rfl, rfl, rfl, rfl, rfl, rfl, by first | rfl | (simp only [k1, k2]; rfl), rfl, rfl, rfl, rfl, rfl⟩ ?_
    rintro n ⟨env, S⟩ ⟨k, hk', rfl, e2, e4, e6, e7, s4, s6, s7, s21, e44, e45, e46, s9⟩
    simp only at e2 e4 e6 e7 s4 s6 s7 s21 e44 e45 e46 s9
    have hlk : (t.subs.take k).length = k := by rw [List.length_take]; omega
    by_cases hlt : (k : Int) < t.subs.length
    · obtain ⟨a, ha⟩ := get_lt (show k < t.subs.length by omega)
      have z3 := Lm.size_mem (mem_of_get ha)
      repeat' (first | (with_reducible first | refine W ?_ | refine Wz0 ?_) | refine Cg _ (ih _ (Lm.lt_of_sub (mem_of_get ha)) a (under t.kind d) (Lm.good_sub hg (mem_of_get ha)) hu2.2 (by omega) rfl) ?_ | ((with_reducible first | refine Wo (fun K hK => ?_) | refine Wp ?_ | refine Wq ?_ | refine Wr ?_); (try simp only [go_sem, fN, seval, eT, iR, e2, e4, e6, e7, s4, s6, s7, s21, e44, e45, e46, s9, ha, hlt, hlk, dT, dF, nL]); (repeat with_reducible refine Ai ?_); (try (refine hK _ ?_; clear hK K)); (try with_reducible refine iC ?_)))
      refine then_normal ⟨t.subs.length - (k + 1), by omega, k + 1, by omega, rfl, ?_⟩
      simp only [go_sem, fN, seval, AS.drop, dropS, AC.clears, AC.clear, AC.highs, AC.high, Bool.not_false, Bool.true_and, Bool.and_self, AV.purge, AV.purges, AC.purge, ABlk.purge, List.contains_cons, List.contains_nil, Nat.reduceBEq, Bool.or_self, Bool.or_false, Bool.false_or, Bool.or_true, eT, iR, e2, e4, e6, e7, s4, s6, s7, s21, e44, e45, e46, s9]
      exact ⟨by rw [take_snoc ha]; simp [encL_eq], by congr 3⟩
    · repeat' (first | (with_reducible first | refine W ?_ | refine Wz0 ?_) | ((with_reducible first | refine Wo (fun K hK => ?_) | refine Wp ?_ | refine Wq ?_ | refine Wr ?_); (try simp only [go_sem, fN, seval, eT, iR, e2, e4, e6, e7, s4, s6, s7, s21, e44, e45, e46, s9, hlt, dT, dF, nL]); (repeat with_reducible refine Ai ?_); (try (refine hK _ ?_; clear hK K)); (try with_reducible refine iC ?_)))
      have hall : t.subs.take k = t.subs := List.take_of_length_le (by omega)
      rw [hall] at s21
      have hkl : k = t.subs.length := by omega
      simp only [go_sem, fN, seval, FinQ, AS.result, resAll, resOne, tupV, e6, s6, s7, s21, hkl]
      simp [k1, k2, Lm.kind_mk, Lm.idx_mk, Lm.subs_mk]
theorem lInto_a (t x : Lm) (hg : t.good 1000000000) (hx : x.good 1000000000) (hxz : x.size ≤ 1000000000) (hz : t.size ≤ 1000000000) : ACalls Tryd.prog 14 [aLm t, aLm x] (aLm (Lm.put x 0 t)) := by
  refine ok_lambda_Into.ac fun C hC => ?_
  unfold ir_lambda_Into
  repeat' (first | (with_reducible first | refine W ?_ | refine Wz0 ?_) | refine Cg _ (linto_a t x 0 hg hx hxz (by decide) (by omega)) ?_ | ((with_reducible first | refine Wo (fun K hK => ?_) | refine Wp ?_ | refine Wq ?_ | refine Wr ?_); (try simp only [go_sem, fN, seval, eT, iR, dT, dF, nL]); (repeat with_reducible refine Ai ?_); (try (refine hK _ ?_; clear hK K)); (try with_reducible refine iC ?_)))
  simp only [go_sem, fN, seval, FinQ, AS.result, resAll, resOne, tupV]

theorem sameLam_a (t : Lm) : ACalls Tryd.prog 10 [aLm t, aLm t] (aBool true) := by
  induction h : SizeOf.sizeOf t using Nat.strongRecOn generalizing t with
  | _ N ih =>
  subst h
  refine ok_R_SameLam.ac fun C hC => ?_
  unfold ir_R_SameLam
  refine IWP.learn 0 (by omega) fun hkn => ?_
  have hkn := (known_lm hkn).2.2
  repeat' (first | (with_reducible first | refine W ?_ | refine Wz0 ?_) | ((with_reducible first | refine Wo (fun K hK => ?_) | refine Wp ?_ | refine Wq ?_ | refine Wr ?_); (try simp only [go_sem, fN, seval, eT, iR, dT, dF, nL]); (repeat with_reducible refine Ai ?_); (try (refine hK _ ?_; clear hK K)); (try with_reducible refine iC ?_)))
  refine IWP.loop (fun n s => ∃ k, k ≤ t.subs.length ∧ n = t.subs.length - k ∧ s.env 2 = .one (.ptr 2 1 0 0) ∧ s.env 3 = .one (.ptr 3 1 0 0) ∧ s.S 2 = some (.box 25 [.st (.int .i64 t.kind), .st (.int .i64 t.idx), .st (.list (t.subs.map encL))]) ∧ s.S 3 = some (.box 25 [.st (.int .i64 t.kind), .st (.int .i64 t.idx), .st (.list (t.subs.map encL))]) ∧ s.env 5 = aInt k) t.subs.length ⟨0, Nat.zero_le _, rfl, rfl, rfl, rfl, rfl, rfl⟩ ?_
  rintro n ⟨env, S⟩ ⟨k, hk', rfl, e2, e3, s2, s3, e5⟩
  simp only at e2 e3 s2 s3 e5
  by_cases hlt : (k : Int) < t.subs.length
  · obtain ⟨a, ha⟩ := get_lt (show k < t.subs.length by omega)
    repeat' (first | (with_reducible first | refine W ?_ | refine Wz0 ?_) | refine Cg _ (ih _ (Lm.lt_of_sub (mem_of_get ha)) a rfl) ?_ | ((with_reducible first | refine Wo (fun K hK => ?_) | refine Wp ?_ | refine Wq ?_ | refine Wr ?_); (try simp only [go_sem, fN, seval, eT, iR, e2, e3, s2, s3, e5, ha, hlt, dT, dF, nL]); (repeat with_reducible refine Ai ?_); (try (refine hK _ ?_; clear hK K)); (try with_reducible refine iC ?_)))
    refine then_normal ⟨t.subs.length - (k + 1), by omega, k + 1, by omega, rfl, ?_⟩
    simp only [go_sem, fN, seval, eT, iR, e2, e3, s2, s3, e5]
    congr 3
  · repeat' (first | (with_reducible first | refine W ?_ | refine Wz0 ?_) | ((with_reducible first | refine Wo (fun K hK => ?_) | refine Wp ?_ | refine Wq ?_ | refine Wr ?_); (try simp only [go_sem, fN, seval, eT, iR, e2, e3, s2, s3, e5, hlt, dT, dF, nL]); (repeat with_reducible refine Ai ?_); (try (refine hK _ ?_; clear hK K)); (try with_reducible refine iC ?_)))
    simp only [go_sem, fN, seval, FinQ, AS.result, resAll, resOne, tupV]
def putErr (b x : Lm) (u : Int) : Int := if u < 0 ∨ 40 ≤ u then 10 else if b.may 0 (u + 1) ≠ 0 then b.may 0 (u + 1) else if x.may 0 u ≠ 0 then x.may 0 u else if 2000 < (Lm.put x 0 b).size then 8 else 0
theorem lPut_a (b x : Lm) (u : Int) : ACalls Tryd.prog 6 [aLm b, aLm x, aInt u] (.tup [aLm (if putErr b x u = 0 then Lm.put x 0 b else Lm.nil), aInt (putErr b x u)]) := by
  refine ok_lambda_Put.ac fun C hC => ?_
  unfold ir_lambda_Put
  by_cases h0 : u < 0 ∨ 40 ≤ u
  · have e : putErr b x u = 10 := by unfold putErr; rw [if_pos h0]
    rw [e]
    by_cases h1 : u < 0
    · repeat' (first | (with_reducible first | refine W ?_ | refine Wz0 ?_) | ((with_reducible first | refine Wo (fun K hK => ?_) | refine Wp ?_ | refine Wq ?_ | refine Wr ?_); (try simp only [go_sem, fN, seval, eT, iR, h1, dT, dF, nL]); (repeat with_reducible refine Ai ?_); (try (refine hK _ ?_; clear hK K)); (try with_reducible refine iC ?_)))
      simp only [go_sem, fN, seval, FinQ, AS.result, resAll, resOne, tupV]
      rfl
    · have h2 : 40 ≤ u := by omega
      repeat' (first | (with_reducible first | refine W ?_ | refine Wz0 ?_) | ((with_reducible first | refine Wo (fun K hK => ?_) | refine Wp ?_ | refine Wq ?_ | refine Wr ?_); (try simp only [go_sem, fN, seval, eT, iR, h1, h2, dT, dF, nL]); (repeat with_reducible refine Ai ?_); (try (refine hK _ ?_; clear hK K)); (try with_reducible refine iC ?_)))
      simp only [go_sem, fN, seval, FinQ, AS.result, resAll, resOne, tupV]
      rfl
  have h1 : ¬ u < 0 := by omega
  have h2 : ¬ 40 ≤ u := by omega
  by_cases hb : b.may 0 (u + 1) = 0
  case neg =>
    have e : putErr b x u = b.may 0 (u + 1) := by unfold putErr; rw [if_neg h0, if_pos hb]
    rw [e]
    repeat' (first | (with_reducible first | refine W ?_ | refine Wz0 ?_) | refine Cg _ (lCheck_a b (u + 1)) ?_ | ((with_reducible first | refine Wo (fun K hK => ?_) | refine Wp ?_ | refine Wq ?_ | refine Wr ?_); (try simp only [go_sem, fN, seval, eT, iR, h1, h2, hb, dT, dF, nL]); (repeat with_reducible refine Ai ?_); (try (refine hK _ ?_; clear hK K)); (try with_reducible refine iC ?_)))
    simp only [go_sem, fN, seval, FinQ, AS.result, resAll, resOne, tupV]
    simp [hb, Lm.nil, Lm.kind_mk, Lm.idx_mk, Lm.subs_mk]
  case pos =>
  by_cases hx : x.may 0 u = 0
  case neg =>
    have e : putErr b x u = x.may 0 u := by unfold putErr; rw [if_neg h0, if_neg (fun h => h hb), if_pos hx]
    rw [e]
    repeat' (first | (with_reducible first | refine W ?_ | refine Wz0 ?_) | refine Cg _ (lCheck_a b (u + 1)) ?_ | refine Cg _ (lCheck_a x u) ?_ | ((with_reducible first | refine Wo (fun K hK => ?_) | refine Wp ?_ | refine Wq ?_ | refine Wr ?_); (try simp only [go_sem, fN, seval, eT, iR, h1, h2, hb, hx, dT, dF, nL]); (repeat with_reducible refine Ai ?_); (try (refine hK _ ?_; clear hK K)); (try with_reducible refine iC ?_)))
    simp only [go_sem, fN, seval, FinQ, AS.result, resAll, resOne, tupV]
    simp [hx, Lm.nil, Lm.kind_mk, Lm.idx_mk, Lm.subs_mk]
  case pos =>
  obtain ⟨b1, b2, b3, b4⟩ := Lm.may_ok hb
  obtain ⟨x1, x2, x3, x4⟩ := Lm.may_ok hx
  have gb := Lm.good_chk (b := 1000000000) (by decide) b _ b1 (by omega) (by omega) b4
  have gx := Lm.good_chk (b := 1000000000) (by decide) x _ x1 (by omega) (by omega) x4
  have hsz := Lm.size_put x 0 b
  have hsz2 : b.size * x.size ≤ 200 * 200 := Nat.mul_le_mul b3 x3
  by_cases hg : (Lm.put x 0 b).size ≤ 2000
  · have e : putErr b x u = 0 := by unfold putErr; rw [if_neg h0, if_neg (fun h => h hb), if_neg (fun h => h hx), if_neg (by omega)]
    have hg' : ((Lm.put x 0 b).size : Int) ≤ 2000 := by omega
    rw [e]
    repeat' (first | (with_reducible first | refine W ?_ | refine Wz0 ?_) | refine Cg _ (lCheck_a b (u + 1)) ?_ | refine Cg _ (lCheck_a x u) ?_ | refine Cg _ (lInto_a b x gb gx (by omega) (by omega)) ?_ | refine Cg _ (lsize_a _ (by omega)) ?_ | ((with_reducible first | refine Wo (fun K hK => ?_) | refine Wp ?_ | refine Wq ?_ | refine Wr ?_); (try simp only [go_sem, fN, seval, eT, iR, h1, h2, hb, hx, hg', dT, dF, nL]); (repeat with_reducible refine Ai ?_); (try (refine hK _ ?_; clear hK K)); (try with_reducible refine iC ?_)))
    simp only [go_sem, fN, seval, FinQ, AS.result, resAll, resOne, tupV]
  · have e : putErr b x u = 8 := by unfold putErr; rw [if_neg h0, if_neg (fun h => h hb), if_neg (fun h => h hx), if_pos (by omega)]
    have hg' : ¬ ((Lm.put x 0 b).size : Int) ≤ 2000 := by omega
    rw [e]
    repeat' (first | (with_reducible first | refine W ?_ | refine Wz0 ?_) | refine Cg _ (lCheck_a b (u + 1)) ?_ | refine Cg _ (lCheck_a x u) ?_ | refine Cg _ (lInto_a b x gb gx (by omega) (by omega)) ?_ | refine Cg _ (lsize_a _ (by omega)) ?_ | ((with_reducible first | refine Wo (fun K hK => ?_) | refine Wp ?_ | refine Wq ?_ | refine Wr ?_); (try simp only [go_sem, fN, seval, eT, iR, h1, h2, hb, hx, hg', dT, dF, nL]); (repeat with_reducible refine Ai ?_); (try (refine hK _ ?_; clear hK K)); (try with_reducible refine iC ?_)))
    simp only [go_sem, fN, seval, FinQ, AS.result, resAll, resOne, tupV]
    rfl

def ir_lambda_A : IR :=
  (.seq (.ops [.i 2 (.box 25 (.t 0)), .i 3 (.box 25 (.t 1)), .i 4 (.alloc 25 [.st (.int .i64 0), .st (.int .i64 0), .full []])]) (.seq (.ops [.L 5 3 2, .L 6 3 3, .i 7 (.buildSlice false 25 3 [.t 5, .t 6]), .i 8 (.build [.st (.int .i64 0), .st (.int .i64 0), .full []] [(0, 1, .n 3), (2, 1, .t 7)]), .s 3 4 8]) .ret))
theorem ok_lambda_A : OkF Tryd.prog 47 9 [] ir_lambda_A [.cell 4 true 3] := .of Tryd.func47 rfl rfl (by kernel_rfl) rfl
def ir_lambda_L : IR :=
  (.seq (.ops [.i 1 (.box 25 (.t 0)), .i 2 (.alloc 25 [.st (.int .i64 0), .st (.int .i64 0), .full []])]) (.seq (.ops [.L 3 3 1, .i 4 (.buildSlice false 25 3 [.t 3]), .i 5 (.build [.st (.int .i64 0), .st (.int .i64 0), .full []] [(0, 1, .n 2), (2, 1, .t 4)]), .s 3 2 5]) .ret))
theorem ok_lambda_L : OkF Tryd.prog 45 6 [] ir_lambda_L [.cell 2 true 3] := .of Tryd.func45 rfl rfl (by kernel_rfl) rfl
def ir_lambda_Copy : IR :=
  (.seq (.ops [.i 1 (.box 25 (.t 0)), .i 2 (.alloc 25 [.st (.int .i64 0), .st (.int .i64 0), .full []])]) (.seq (.ops [.L 3 3 1, .i 4 (.call 37 [.t 3, .n 0, .n 0]), .s 3 2 4]) .ret))
theorem ok_lambda_Copy : OkF Tryd.prog 48 5 [] ir_lambda_Copy [.cell 2 true 3] := .of Tryd.func48 rfl rfl (by kernel_rfl) rfl
def ir_reduce_Redex : IR :=
  (.seq (.ops [.i 1 (.box 25 (.t 0)), .i 2 (.mov (.c (.one (.st (.bool false)))))]) (.seq (.ops [.f 3 0 1, .l 4 3, .i 5 (.bin .eql (.t 4) (.n 3)), .m 6 5, .mk (some 7) (some (6, true)) (.fieldAddr 2 (.t 1)) .no, .mk (some 8) (some (6, true)) (.load false 1 (.t 7)) .no, .mk (some 9) (some (6, true)) (.indexAddr 3 (.t 8) (.n 0)) .no, .mk (some 10) (some (6, true)) (.fieldAddr 0 (.t 9)) .no, .mk (some 11) (some (6, true)) (.load false 1 (.t 10)) .no, .mk (some 12) (some (6, true)) (.bin .eql (.t 11) (.n 2)) .no, .i 13 (.pick (.t 6) (.t 12) (.c (.one (.st (.bool false))))), .m 2 13]) .ret))
theorem ok_reduce_Redex : OkF Tryd.prog 49 14 [] ir_reduce_Redex [.t 2] := .of Tryd.func49 rfl rfl (by kernel_rfl) rfl
def ir_reduce_out : IR :=
  (.seq (.ops [.i 1 (.box 25 (.t 0)), .i 2 (.alloc 25 [.st (.int .i64 0), .st (.int .i64 0), .full []])]) (.seq (.ops [.f 3 2 1, .l 4 3, .i 5 (.indexAddr 3 (.t 4) (.n 0)), .f 6 2 5, .l 7 6, .i 8 (.indexAddr 3 (.t 7) (.n 0)), .L 9 3 8, .f 10 2 1, .l 11 10, .i 12 (.indexAddr 3 (.t 11) (.n 1)), .L 13 3 12, .i 14 (.call 14 [.t 9, .t 13]), .s 3 2 14]) .ret))
theorem ok_reduce_out : OkF Tryd.prog 50 15 [] ir_reduce_out [.cell 2 true 3] := .of Tryd.func50 rfl rfl (by kernel_rfl) rfl
def ir_reduce_with : IR :=
  (.seq (.ops [.i 3 (.box 25 (.t 0)), .i 5 (.box 25 (.t 2)), .i 6 (.alloc 25 [.st (.int .i64 0), .st (.int .i64 0), .full []])]) (.seq (.ops [.mk (some 8) none (.fieldAddr 0 (.t 3)) (.onb 3), .mk (some 9) none (.load false 1 (.t 8)) (.onb 3), .mk (some 10) none (.fieldAddr 1 (.t 3)) (.onb 3), .mk (some 11) none (.load false 1 (.t 10)) (.onb 3), .i 12 (.buildSlice false 25 3 []), .f 13 2 3, .l 14 13, .mk (some 15) none (.append true 25 3 40 (.t 12) (.t 14)) (.keeps [3, 3, 3, 3]), .i 16 (.build [.st (.int .i64 0), .st (.int .i64 0), .full []] [(0, 1, .t 9), (1, 1, .t 11), (2, 1, .t 15)]), .i 7 (.alloc 25 [.st (.int .i64 0), .st (.int .i64 0), .full []]), .s 3 7 16]) (.seq (.ops [.f 17 2 7, .l 18 17, .m 19 1, .L 20 3 5, .i 21 (.indexAddr 3 (.t 18) (.t 19)), .s 3 21 20]) (.seq (.ops [.L 22 3 7, .s 3 6 22]) .ret))))
theorem ok_reduce_with : OkF Tryd.prog 51 23 [15] ir_reduce_with [.cell 6 true 3] := .of Tryd.func51 rfl rfl (by kernel_rfl) rfl
def ir_reduce_Outer : IR :=
  (.seq (.ops [.i 1 (.box 25 (.t 0)), .i 2 (.alloc 25 [.st (.int .i64 0), .st (.int .i64 0), .full []]), .i 3 (.mov (.c (.one (.st (.bool false)))))]) (.seq (.seq (.ops [.L 8 3 1, .i 9 (.call 49 [.t 8])]) (.cond (.t 9) (.seq (.ops [.L 10 3 1, .i 11 (.call 50 [.t 10]), .s 3 2 11, .i 3 (.mov (.c (.one (.st (.bool true)))))]) .ret) .skip)) (.seq (.seq (.ops [.f 12 2 1, .l 13 12, .i 14 (.len false (.t 13)), .i 15 (.mov (.n 0))]) (.block 0 (.loop (.seq (.ops [.i 16 (.bin .lss (.t 15) (.t 14))]) (.seq (.cond (.t 16) .skip (.exit 0)) (.seq (.block 1 (.seq (.ops [.m 17 15, .i 18 (.indexAddr 3 (.t 13) (.t 15)), .L 19 3 18, .i 5 (.alloc 25 [.st (.int .i64 0), .st (.int .i64 0), .full []]), .m 4 17, .s 3 5 19]) (.seq (.ops [.L 21 3 5, .i 22 (.call 33 [.t 21]), .m 20 22, .i 23 (.extract 0 (.t 20)), .i 24 (.extract 1 (.t 20)), .i 6 (.alloc 25 [.st (.int .i64 0), .st (.int .i64 0), .full []]), .s 3 6 23, .m 7 24]) (.seq (.ops [.m 25 7]) (.cond (.t 25) (.seq (.ops [.L 26 3 1, .m 27 4, .L 28 3 6, .i 29 (.call 51 [.t 26, .t 27, .t 28]), .s 3 2 29, .i 3 (.mov (.c (.one (.st (.bool true)))))]) .ret) .skip))))) (.ops [.i 30 (.bin .add (.t 15) (.n 1)), .m 15 30]))))))) (.seq (.ops [.L 31 3 1, .s 3 2 31, .i 3 (.mov (.c (.one (.st (.bool false)))))]) .ret))))
theorem ok_reduce_Outer : OkF Tryd.prog 33 32 [] ir_reduce_Outer [.cell 2 true 3, .t 3] := .of Tryd.func33 rfl rfl (by kernel_rfl) rfl
def ir_reduce_Last : IR :=
  (.seq (.ops [.i 3 (.box 25 (.t 0)), .i 6 (.alloc 25 [.st (.int .i64 0), .st (.int .i64 0), .full []]), .i 7 (.mov (.n 0)), .i 8 (.mov (.n 0))]) (.seq (.ops [.i 9 (.mov (.n 0))]) (.block 0 (.loop (.seq (.block 1 (.seq (.ops [.m 15 2, .L 16 3 3, .i 17 (.callV (.t 15) [.t 16]), .m 14 17, .i 18 (.extract 0 (.t 14)), .i 19 (.extract 1 (.t 14)), .i 10 (.alloc 25 [.st (.int .i64 0), .st (.int .i64 0), .full []]), .s 3 10 18, .m 11 19]) (.seq (.seq (.ops [.m 20 11, .i 21 (.un .not (.t 20))]) (.cond (.t 21) (.seq (.ops [.L 22 3 3, .i 23 (.call 48 [.t 22]), .m 24 9, .s 3 6 23, .m 7 24, .i 8 (.mov (.n 0))]) .ret) .skip)) (.seq (.seq (.ops [.m 25 9, .m 26 1, .i 27 (.bin .eql (.t 25) (.t 26))]) (.cond (.t 27) (.seq (.ops [.i 28 (.build [.st (.int .i64 0), .st (.int .i64 0), .full []] []), .s 3 6 28, .i 7 (.mov (.n 0)), .i 8 (.mov (.n 9))]) .ret) .skip)) (.seq (.ops [.L 29 3 10, .s 3 3 29]) (.seq (.ops [.L 30 3 3, .i 31 (.call 15 [.t 30]), .i 32 (.bin .gtr (.t 31) (.n 2000))]) (.cond (.t 32) (.seq (.ops [.i 33 (.build [.st (.int .i64 0), .st (.int .i64 0), .full []] []), .s 3 6 33, .i 7 (.mov (.n 0)), .i 8 (.mov (.n 8))]) .ret) .skip))))))) (.ops [.m 12 9, .i 13 (.bin .add (.t 12) (.n 1)), .m 9 13]))))))
theorem ok_reduce_Last : OkF Tryd.prog 32 34 [] ir_reduce_Last [.cell 6 true 3, .t 7, .t 8] := .of Tryd.func32 rfl rfl (by kernel_rfl) rfl
def ir_reduce_args : IR :=
  (.seq (.ops [.i 3 (.box 25 (.t 0)), .i 6 (.mov (.n 0))]) (.seq (.ops [.L 8 3 3, .m 9 1, .i 10 (.call 13 [.t 8, .t 9]), .m 7 10]) (.seq (.seq (.ops [.m 11 7, .i 12 (.bin .eql (.t 11) (.n 0)), .m 13 12, .mk (some 14) (some (13, true)) (.mov (.t 2)) .no, .mk (some 15) (some (13, true)) (.bin .lss (.t 14) (.n 0)) .no, .mk (some 16) (some (13, true)) (.mov (.t 15)) .no, .mk (some 17) (some (16, false)) (.mov (.t 2)) .no, .mk (some 18) (some (16, false)) (.bin .gtr (.t 17) (.n 400)) .no, .mk (some 19) (some (13, true)) (.pick (.t 16) (.c (.one (.st (.bool true)))) (.t 18)) .no, .i 20 (.pick (.t 13) (.t 19) (.c (.one (.st (.bool false)))))]) (.cond (.t 20) (.ops [.i 7 (.mov (.n 3))]) .skip)) (.seq (.ops [.m 21 7, .m 6 21]) .ret))))
theorem ok_reduce_args : OkF Tryd.prog 31 22 [] ir_reduce_args [.t 6] := .of Tryd.func31 rfl rfl (by kernel_rfl) rfl
def ir_reduce_Normal : IR :=
  (.seq (.ops [.i 3 (.box 25 (.t 0)), .i 6 (.alloc 25 [.st (.int .i64 0), .st (.int .i64 0), .full []]), .i 7 (.mov (.n 0)), .i 8 (.mov (.n 0))]) (.seq (.seq (.ops [.L 10 3 3, .m 11 1, .m 12 2, .i 13 (.call 31 [.t 10, .t 11, .t 12]), .m 9 13]) (.seq (.ops [.m 14 9, .i 15 (.bin .neq (.t 14) (.n 0))]) (.cond (.t 15) (.seq (.ops [.i 16 (.build [.st (.int .i64 0), .st (.int .i64 0), .full []] []), .m 17 9, .s 3 6 16, .i 7 (.mov (.n 0)), .m 8 17]) .ret) .skip))) (.seq (.ops [.L 18 3 3, .m 19 2, .i 20 (.call 32 [.t 18, .t 19, .c (.one (.fn 33 []))]), .i 21 (.extract 0 (.t 20)), .i 22 (.extract 1 (.t 20)), .i 23 (.extract 2 (.t 20)), .s 3 6 21, .m 7 22, .m 8 23]) .ret)))
theorem ok_reduce_Normal : OkF Tryd.prog 19 24 [] ir_reduce_Normal [.cell 6 true 3, .t 7, .t 8] := .of Tryd.func19 rfl rfl (by kernel_rfl) rfl
def ir_R_App : IR :=
  (.seq (.ops [.i 2 (.box 25 (.t 0)), .i 3 (.box 25 (.t 1)), .i 4 (.alloc 25 [.st (.int .i64 0), .st (.int .i64 0), .full []])]) (.seq (.ops [.L 5 3 2, .L 6 3 3, .i 7 (.buildSlice false 25 3 [.t 5, .t 6]), .i 8 (.build [.st (.int .i64 0), .st (.int .i64 0), .full []] [(0, 1, .n 3), (2, 1, .t 7)]), .s 3 4 8]) .ret))
theorem ok_R_App : OkF Tryd.prog 24 9 [] ir_R_App [.cell 4 true 3] := .of Tryd.func24 rfl rfl (by kernel_rfl) rfl
def ir_R_Fun : IR :=
  (.seq (.ops [.i 1 (.box 25 (.t 0)), .i 2 (.alloc 25 [.st (.int .i64 0), .st (.int .i64 0), .full []])]) (.seq (.ops [.L 3 3 1, .i 4 (.buildSlice false 25 3 [.t 3]), .i 5 (.build [.st (.int .i64 0), .st (.int .i64 0), .full []] [(0, 1, .n 2), (2, 1, .t 4)]), .s 3 2 5]) .ret))
theorem ok_R_Fun : OkF Tryd.prog 22 6 [] ir_R_Fun [.cell 2 true 3] := .of Tryd.func22 rfl rfl (by kernel_rfl) rfl

theorem lA_a (f x : Lm) : ACalls Tryd.prog 47 [aLm f, aLm x] (aLm (Lm.a f x)) := by
  refine ok_lambda_A.ac fun C hC => ?_
  unfold ir_lambda_A
  repeat' (first | (with_reducible first | refine W ?_ | refine Wz0 ?_) | ((with_reducible first | refine Wo (fun K hK => ?_) | refine Wp ?_ | refine Wq ?_ | refine Wr ?_); (try simp only [go_sem, fN, seval, eT, iR, dT, dF, nL]); (repeat with_reducible refine Ai ?_); (try (refine hK _ ?_; clear hK K)); (try with_reducible refine iC ?_)))
  simp only [go_sem, fN, seval, FinQ, AS.result, resAll, resOne, tupV]
  simp [Lm.a, Lm.kind_mk, Lm.idx_mk, Lm.subs_mk, encL_eq]
theorem lApp_a (f x : Lm) : ACalls Tryd.prog 24 [aLm f, aLm x] (aLm (Lm.a f x)) := by
  refine ok_R_App.ac fun C hC => ?_
  unfold ir_R_App
  repeat' (first | (with_reducible first | refine W ?_ | refine Wz0 ?_) | ((with_reducible first | refine Wo (fun K hK => ?_) | refine Wp ?_ | refine Wq ?_ | refine Wr ?_); (try simp only [go_sem, fN, seval, eT, iR, dT, dF, nL]); (repeat with_reducible refine Ai ?_); (try (refine hK _ ?_; clear hK K)); (try with_reducible refine iC ?_)))
  simp only [go_sem, fN, seval, FinQ, AS.result, resAll, resOne, tupV]
  simp [Lm.a, Lm.kind_mk, Lm.idx_mk, Lm.subs_mk, encL_eq]
theorem lL_a (t : Lm) : ACalls Tryd.prog 45 [aLm t] (aLm (Lm.l t)) := by
  refine ok_lambda_L.ac fun C hC => ?_
  unfold ir_lambda_L
  repeat' (first | (with_reducible first | refine W ?_ | refine Wz0 ?_) | ((with_reducible first | refine Wo (fun K hK => ?_) | refine Wp ?_ | refine Wq ?_ | refine Wr ?_); (try simp only [go_sem, fN, seval, eT, iR, dT, dF, nL]); (repeat with_reducible refine Ai ?_); (try (refine hK _ ?_; clear hK K)); (try with_reducible refine iC ?_)))
  simp only [go_sem, fN, seval, FinQ, AS.result, resAll, resOne, tupV]
  simp [Lm.l, Lm.kind_mk, Lm.idx_mk, Lm.subs_mk, encL_eq]
theorem lFun_a (t : Lm) : ACalls Tryd.prog 22 [aLm t] (aLm (Lm.l t)) := by
  refine ok_R_Fun.ac fun C hC => ?_
  unfold ir_R_Fun
  repeat' (first | (with_reducible first | refine W ?_ | refine Wz0 ?_) | ((with_reducible first | refine Wo (fun K hK => ?_) | refine Wp ?_ | refine Wq ?_ | refine Wr ?_); (try simp only [go_sem, fN, seval, eT, iR, dT, dF, nL]); (repeat with_reducible refine Ai ?_); (try (refine hK _ ?_; clear hK K)); (try with_reducible refine iC ?_)))
  simp only [go_sem, fN, seval, FinQ, AS.result, resAll, resOne, tupV]
  simp [Lm.l, Lm.kind_mk, Lm.idx_mk, Lm.subs_mk, encL_eq]
theorem lCopy_a (t : Lm) (hg : t.good 1000000000) (hz : t.size ≤ 1000000000) : ACalls Tryd.prog 48 [aLm t] (aLm t) := by
  have e := Lm.mv_zero 0 t
  refine ok_lambda_Copy.ac fun C hC => ?_
  unfold ir_lambda_Copy
  repeat' (first | (with_reducible first | refine W ?_ | refine Wz0 ?_) | refine Cg _ (lmove_a t 0 0 hg (by decide) (by decide) (by omega)) ?_ | ((with_reducible first | refine Wo (fun K hK => ?_) | refine Wp ?_ | refine Wq ?_ | refine Wr ?_); (try simp only [go_sem, fN, seval, eT, iR, e, dT, dF, nL]); (repeat with_reducible refine Ai ?_); (try (refine hK _ ?_; clear hK K)); (try with_reducible refine iC ?_)))
  simp only [go_sem, fN, seval, FinQ, AS.result, resAll, resOne, tupV, e]
def Lm.isRed (t : Lm) : Bool := (Lm.top t.kind t.subs).isSome
theorem lRedex_a (t : Lm) (hw : t.wf) : ACalls Tryd.prog 49 [aLm t] (aBool t.isRed) := by
  refine ok_reduce_Redex.ac fun C hC => ?_
  unfold ir_reduce_Redex
  unfold Lm.isRed
  rcases Lm.top_cases hw with ⟨f, x, b, h1, h2, h3, h4, h5⟩ | ⟨h5, h6⟩
  · rw [h5]
    repeat' (first | (with_reducible first | refine W ?_ | refine Wz0 ?_) | ((with_reducible first | refine Wo (fun K hK => ?_) | refine Wp ?_ | refine Wq ?_ | refine Wr ?_); (try simp only [go_sem, fN, seval, eT, iR, h1, h2, h3, dT, dF, nL]); (repeat with_reducible refine Ai ?_); (try (refine hK _ ?_; clear hK K)); (try with_reducible refine iC ?_)))
    simp only [go_sem, fN, seval, FinQ, AS.result, resAll, resOne, tupV]
  · rw [h5]
    by_cases h1 : t.kind = 3
    · obtain ⟨f, x, h2, h3⟩ := h6 h1
      repeat' (first | (with_reducible first | refine W ?_ | refine Wz0 ?_) | ((with_reducible first | refine Wo (fun K hK => ?_) | refine Wp ?_ | refine Wq ?_ | refine Wr ?_); (try simp only [go_sem, fN, seval, eT, iR, h1, h2, h3, dT, dF, nL]); (repeat with_reducible refine Ai ?_); (try (refine hK _ ?_; clear hK K)); (try with_reducible refine iC ?_)))
      simp only [go_sem, fN, seval, FinQ, AS.result, resAll, resOne, tupV]
    · repeat' (first | (with_reducible first | refine W ?_ | refine Wz0 ?_) | ((with_reducible first | refine Wo (fun K hK => ?_) | refine Wp ?_ | refine Wq ?_ | refine Wr ?_); (try simp only [go_sem, fN, seval, eT, iR, h1, dT, dF, nL]); (repeat with_reducible refine Ai ?_); (try (refine hK _ ?_; clear hK K)); (try with_reducible refine iC ?_)))
      simp only [go_sem, fN, seval, FinQ, AS.result, resAll, resOne, tupV]
theorem lout_a (t f x b : Lm) (h2 : t.subs = [f, x]) (h4 : f.subs = [b]) (hb : b.good 1000000000) (hx : x.good 1000000000) (hbz : b.size ≤ 1000000000) (hxz : x.size ≤ 1000000000) : ACalls Tryd.prog 50 [aLm t] (aLm (Lm.put x 0 b)) := by
  refine ok_reduce_out.ac fun C hC => ?_
  unfold ir_reduce_out
  repeat' (first | (with_reducible first | refine W ?_ | refine Wz0 ?_) | refine Cg _ (lInto_a b x hb hx hxz hbz) ?_ | ((with_reducible first | refine Wo (fun K hK => ?_) | refine Wp ?_ | refine Wq ?_ | refine Wr ?_); (try simp only [go_sem, fN, seval, eT, iR, h2, h4, dT, dF, nL]); (repeat with_reducible refine Ai ?_); (try (refine hK _ ?_; clear hK K)); (try with_reducible refine iC ?_)))
  simp only [go_sem, fN, seval, FinQ, AS.result, resAll, resOne, tupV]
theorem lwith_a (t x : Lm) (i : Nat) (hi : i < t.subs.length) (hz : t.subs.length ≤ 1000000000) : ACalls Tryd.prog 51 [aLm t, aInt i, aLm x] (aLm (.mk t.kind t.idx (t.subs.set i x))) := by
  obtain ⟨a, ha⟩ := get_lt hi
  have hne : ¬ t.subs = [] := fun e => by rw [e] at hi; simp at hi
  refine ok_reduce_with.ac fun C hC => ?_
  unfold ir_reduce_with
  repeat' (first | (with_reducible first | refine W ?_ | refine Wz0 ?_) | ((with_reducible first | refine Wo (fun K hK => ?_) | refine Wp ?_ | refine Wq ?_ | refine Wr ?_); (try simp only [go_sem, fN, seval, eT, iR, hi, hne, dT, dF, nL]); (repeat with_reducible refine Ai ?_); (try (refine hK _ ?_; clear hK K)); (try with_reducible refine iC ?_)))
  simp only [go_sem, fN, seval, eT, iR, ha]
  refine hK _ ?_
  clear hK K
  refine seqQ_normal ?_
  refine IWP.ghost (Ghost.share (id := 15) rfl) ?_
  repeat' (first | (with_reducible first | refine W ?_ | refine Wz0 ?_) | ((with_reducible first | refine Wo (fun K hK => ?_) | refine Wp ?_ | refine Wq ?_ | refine Wr ?_); (try simp only [go_sem, fN, seval, eT, iR, dT, dF, nL]); (repeat with_reducible refine Ai ?_); (try (refine hK _ ?_; clear hK K)); (try with_reducible refine iC ?_)))
  simp only [go_sem, fN, seval, FinQ, AS.result, resAll, resOne, tupV]
  simp [encL_eq, Lm.kind_mk, Lm.idx_mk, Lm.subs_mk]

def ir_R_Con : IR :=
  (.seq (.ops [.i 2 (.alloc 25 [.st (.int .i64 0), .st (.int .i64 0), .full []])]) (.seq (.ops [.m 3 0, .i 4 (.build [.st (.int .i64 0), .st (.int .i64 0), .full []] [(0, 1, .n 4), (1, 1, .t 3)]), .s 3 2 4]) .ret))
theorem ok_R_Con : OkF Tryd.prog 23 5 [] ir_R_Con [.cell 2 true 3] := .of Tryd.func23 rfl rfl (by kernel_rfl) rfl

set_option maxHeartbeats 1000000
theorem lCon_a (i : Int) : ACalls Tryd.prog 23 [aInt i] (aLm (.mk 4 i [])) := by
  refine ok_R_Con.ac fun C hC => ?_
  unfold ir_R_Con
  repeat' (first | (with_reducible first | refine W ?_ | refine Wz0 ?_) | ((with_reducible first | refine Wo (fun K hK => ?_) | refine Wp ?_ | refine Wq ?_ | refine Wr ?_); (try simp only [go_sem, fN, seval, eT, iR, dT, dF, nL]); (repeat with_reducible refine Ai ?_); (try (refine hK _ ?_; clear hK K)); (try with_reducible refine iC ?_)))
  simp only [go_sem, fN, seval, FinQ, AS.result, resAll, resOne, tupV]
  simp [Lm.kind_mk, Lm.idx_mk, Lm.subs_mk, encL_eq]

def ir_R_Pick : IR :=
  (.seq (.ops [.i 4 (.mov (.n 0))]) (.seq (.seq (.ops [.m 5 0, .i 6 (.bin .lss (.t 5) (.n 0))]) (.cond (.t 6) (.ops [.m 7 0, .i 8 (.bin .add (.t 7) (.n 1)), .i 9 (.un .neg (.t 8)), .m 0 9]) .skip)) (.seq (.ops [.m 10 0, .m 11 1, .i 12 (.bin .rem (.t 10) (.t 11)), .m 4 12]) .ret)))
theorem ok_R_Pick : OkF Tryd.prog 5 13 [] ir_R_Pick [.t 4] := .of Tryd.func5 rfl rfl (by kernel_rfl) rfl
def ir_R_Raw : IR :=
  (.seq (.ops [.i 4 (.mov (.n 0))]) (.seq (.seq (.ops [.m 5 0, .i 6 (.len false (.t 5)), .i 7 (.bin .eql (.t 6) (.n 0))]) (.cond (.t 7) (.seq (.ops [.m 8 1, .i 9 (.bin .mul (.t 8) (.n 31)), .m 4 9]) .ret) .skip)) (.seq (.ops [.m 10 0, .m 11 1, .m 12 0, .i 13 (.len false (.t 12)), .i 14 (.bin .rem (.t 11) (.t 13)), .i 15 (.indexAddr 1 (.t 10) (.t 14)), .l 16 15, .i 17 (.call 5 [.t 16, .n 1000003]), .m 18 1, .m 19 0, .i 20 (.len false (.t 19)), .i 21 (.bin .quo (.t 18) (.t 20)), .i 22 (.bin .mul (.t 21) (.n 7919)), .i 23 (.bin .add (.t 17) (.t 22)), .m 4 23]) .ret)))
theorem ok_R_Raw : OkF Tryd.prog 21 24 [] ir_R_Raw [.t 4] := .of Tryd.func21 rfl rfl (by kernel_rfl) rfl
def ir_R_LamFrom : IR :=
  (.seq (.ops [.i 10 (.alloc 25 [.st (.int .i64 0), .st (.int .i64 0), .full []]), .i 11 (.mov (.n 0))]) (.seq (.ops [.m 18 0, .m 19 1, .i 20 (.call 21 [.t 18, .t 19]), .m 12 20]) (.seq (.ops [.m 21 1, .i 22 (.bin .add (.t 21) (.n 1)), .m 1 22]) (.seq (.seq (.ops [.m 23 2, .i 24 (.bin .lss (.t 23) (.n 3)), .m 25 24, .mk (some 26) (some (25, false)) (.mov (.t 12)) .no, .mk (some 27) (some (25, false)) (.call 5 [.t 26, .n 6]) .no, .mk (some 28) (some (25, false)) (.bin .eql (.t 27) (.n 0)) .no, .i 29 (.pick (.t 25) (.c (.one (.st (.bool true)))) (.t 28))]) (.cond (.t 29) (.seq (.seq (.ops [.m 30 3, .i 31 (.bin .eql (.t 30) (.n 0)), .m 32 31, .mk (some 33) (some (32, true)) (.mov (.t 4)) .no, .mk (some 34) (some (32, true)) (.bin .eql (.t 33) (.n 0)) .no, .i 35 (.pick (.t 32) (.t 34) (.c (.one (.st (.bool false)))))]) (.cond (.t 35) (.seq (.ops [.i 36 (.call 17 [.n 0]), .i 37 (.call 22 [.t 36]), .m 38 1, .s 3 10 37, .m 11 38]) .ret) .skip)) (.seq (.seq (.ops [.m 39 3, .i 40 (.bin .eql (.t 39) (.n 0)), .m 41 40, .mk (some 42) (some (41, false)) (.mov (.t 4)) .no, .mk (some 43) (some (41, false)) (.bin .gtr (.t 42) (.n 0)) .no, .mk (some 44) (some (41, false)) (.mov (.t 43)) .no, .mk (some 45) (some (44, true)) (.mov (.t 12)) .no, .mk (some 46) (some (44, true)) (.bin .quo (.t 45) (.n 6)) .no, .mk (some 47) (some (44, true)) (.call 5 [.t 46, .n 4]) .no, .mk (some 48) (some (44, true)) (.bin .eql (.t 47) (.n 0)) .no, .mk (some 49) (some (41, false)) (.pick (.t 44) (.t 48) (.c (.one (.st (.bool false))))) .no, .i 50 (.pick (.t 41) (.c (.one (.st (.bool true)))) (.t 49))]) (.cond (.t 50) (.seq (.ops [.m 51 12, .i 52 (.bin .quo (.t 51) (.n 24)), .m 53 4, .i 54 (.call 5 [.t 52, .t 53]), .i 55 (.call 23 [.t 54]), .m 56 1, .s 3 10 55, .m 11 56]) .ret) .skip)) (.seq (.ops [.m 57 12, .i 58 (.bin .quo (.t 57) (.n 6)), .m 59 3, .i 60 (.call 5 [.t 58, .t 59]), .i 61 (.call 17 [.t 60]), .m 62 1, .s 3 10 61, .m 11 62]) .ret))) .skip)) (.seq (.seq (.ops [.m 63 12, .i 64 (.call 5 [.t 63, .n 6]), .i 65 (.bin .lss (.t 64) (.n 3))]) (.cond (.t 65) (.seq (.ops [.m 67 0, .m 68 1, .m 69 2, .i 70 (.bin .sub (.t 69) (.n 1)), .m 71 3, .i 72 (.bin .add (.t 71) (.n 1)), .m 73 4, .i 74 (.call 12 [.t 67, .t 68, .t 70, .t 72, .t 73]), .m 66 74, .i 75 (.extract 0 (.t 66)), .i 76 (.extract 1 (.t 66)), .i 13 (.alloc 25 [.st (.int .i64 0), .st (.int .i64 0), .full []]), .s 3 13 75, .m 14 76]) (.seq (.ops [.L 77 3 13, .i 78 (.call 22 [.t 77]), .m 79 14, .s 3 10 78, .m 11 79]) .ret)) .skip)) (.seq (.ops [.m 81 0, .m 82 1, .m 83 2, .i 84 (.bin .quo (.t 83) (.n 2)), .m 85 3, .m 86 4, .i 87 (.call 12 [.t 81, .t 82, .t 84, .t 85, .t 86]), .m 80 87, .i 88 (.extract 0 (.t 80)), .i 89 (.extract 1 (.t 80)), .i 15 (.alloc 25 [.st (.int .i64 0), .st (.int .i64 0), .full []]), .s 3 15 88, .m 16 89]) (.seq (.ops [.m 91 0, .m 92 16, .m 93 2, .i 94 (.bin .quo (.t 93) (.n 2)), .m 95 3, .m 96 4, .i 97 (.call 12 [.t 91, .t 92, .t 94, .t 95, .t 96]), .m 90 97, .i 98 (.extract 0 (.t 90)), .i 99 (.extract 1 (.t 90)), .i 17 (.alloc 25 [.st (.int .i64 0), .st (.int .i64 0), .full []]), .s 3 17 98, .m 16 99]) (.seq (.ops [.L 100 3 15, .L 101 3 17, .i 102 (.call 24 [.t 100, .t 101]), .m 103 16, .s 3 10 102, .m 11 103]) .ret))))))))
theorem ok_R_LamFrom : OkF Tryd.prog 12 104 [] ir_R_LamFrom [.cell 10 true 3, .t 11] := .of Tryd.func12 rfl rfl (by kernel_rfl) rfl
def ir_R_LamOfRaw : IR :=
  (.seq (.ops [.i 10 (.alloc 25 [.st (.int .i64 0), .st (.int .i64 0), .full []])]) (.seq (.ops [.m 14 0, .m 15 1, .m 16 2, .m 17 3, .m 18 4, .i 19 (.call 12 [.t 14, .t 15, .t 16, .t 17, .t 18]), .m 13 19, .i 20 (.extract 0 (.t 13)), .i 21 (.extract 1 (.t 13)), .i 11 (.alloc 25 [.st (.int .i64 0), .st (.int .i64 0), .full []]), .s 3 11 20, .m 12 21]) (.seq (.ops [.L 22 3 11, .s 3 10 22]) .ret)))
theorem ok_R_LamOfRaw : OkF Tryd.prog 4 23 [] ir_R_LamOfRaw [.cell 10 true 3] := .of Tryd.func4 rfl rfl (by kernel_rfl) rfl

def pickI (c n : Int) : Int := (if c < 0 then -(c + 1) else c) % n
theorem pickI_range (c n : Int) (hn : 1 ≤ n) : 0 ≤ pickI c n ∧ pickI c n < n := ⟨Int.emod_nonneg _ (by omega), Int.emod_lt_of_pos _ (by omega)⟩
theorem tmod_range {x n : Int} (hx : 0 ≤ x) (hn : 1 ≤ n) : x.tmod n = x % n ∧ 0 ≤ x % n ∧ x % n < n ∧ x % n ≤ x := by
  rw [Int.tmod_eq_emod_of_nonneg hx]
  refine ⟨rfl, Int.emod_nonneg _ (by omega), Int.emod_lt_of_pos _ (by omega), ?_⟩
  by_cases h : x < n
  · rw [Int.emod_eq_of_lt hx h]; exact Int.le_refl _
  · have := Int.emod_lt_of_pos x (show 0 < n by omega); omega
theorem tdiv_range {x n : Int} (hx : 0 ≤ x) (hn : 1 ≤ n) : x.tdiv n = x / n ∧ 0 ≤ x / n ∧ x / n ≤ x := by
  rw [Int.tdiv_eq_ediv_of_nonneg hx]
  exact ⟨rfl, Int.ediv_nonneg hx (by omega), Int.ediv_le_self _ hx⟩
theorem pick_a (c n : Int) (hc : inR .i64 c) (hn : 1 ≤ n) : ACalls Tryd.prog 5 [aInt c, aInt n] (aInt (pickI c n)) := by
  rw [inR_i64] at hc
  refine ok_R_Pick.ac fun C hC => ?_
  unfold ir_R_Pick
  repeat' (first | (with_reducible first | refine W ?_ | refine Wz0 ?_) | ((with_reducible first | refine Wo (fun K hK => ?_) | refine Wq ?_ | refine Wr ?_); (try simp only [go_sem, fN, seval, eT, iR]); (repeat with_reducible refine Ai ?_); (try (refine hK _ ?_; clear hK K))))
  with_reducible refine Wp ?_
  simp only [go_sem, fN, seval, true_implies, false_implies, implies_true, dT, dF, nL]
  (try with_reducible refine iC ?_)
  refine ⟨fun h0 => ?_, fun h0 => ?_⟩
  · have h1 := tmod_range (x := 0 - (c + 1)) (n := n) (by omega) hn
    repeat' (first | (with_reducible first | refine W ?_ | refine Wz0 ?_) | ((with_reducible first | refine Wo (fun K hK => ?_) | refine Wq ?_ | refine Wr ?_); (try simp only [go_sem, fN, seval, eT, iR, h1.1]); (repeat with_reducible refine Ai ?_); (try (refine hK _ ?_; clear hK K))))
    simp only [go_sem, fN, seval, FinQ, AS.result, resAll, resOne, tupV]
    unfold pickI
    rw [if_pos h0]
    congr 5
    omega
  · have h1 := tmod_range (x := c) (n := n) (by omega) hn
    repeat' (first | (with_reducible first | refine W ?_ | refine Wz0 ?_) | ((with_reducible first | refine Wo (fun K hK => ?_) | refine Wq ?_ | refine Wr ?_); (try simp only [go_sem, fN, seval, eT, iR, h1.1]); (repeat with_reducible refine Ai ?_); (try (refine hK _ ?_; clear hK K))))
    simp only [go_sem, fN, seval, FinQ, AS.result, resAll, resOne, tupV]
    unfold pickI
    rw [if_neg h0]
def rawI (l : List Int) (i : Nat) : Int := if l.length = 0 then i * 31 else pickI (l.getD (i % l.length) 0) 1000003 + ((i / l.length : Nat) : Int) * 7919
theorem rawI_range (l : List Int) (i : Nat) : 0 ≤ rawI l i ∧ rawI l i ≤ 1000003 + i * 7919 := by
  unfold rawI
  split
  · omega
  · have := pickI_range (l.getD (i % l.length) 0) 1000003 (by omega)
    have h2 : i / l.length ≤ i := Nat.div_le_self _ _
    generalize i / l.length = q at *
    omega
theorem raw_a (l : List Int) (i : Nat) (hi : i ≤ 1000000) (hl : ∀ n ∈ l, inR .i64 n) (hm : l.length ≤ maxLen) : ACalls Tryd.prog 21 [aInts l, aInt i] (aInt (rawI l i)) := by
  rw [maxLen_eq] at hm
  refine ok_R_Raw.ac fun C hC => ?_
  unfold ir_R_Raw
  repeat' (first | (with_reducible first | refine W ?_ | refine Wz0 ?_) | ((with_reducible first | refine Wo (fun K hK => ?_) | refine Wq ?_ | refine Wr ?_); (try simp only [go_sem, fN, seval, eT, iR]); (repeat with_reducible refine Ai ?_); (try (refine hK _ ?_; clear hK K))))
  with_reducible refine Wp ?_
  simp only [go_sem, fN, seval, true_implies, false_implies, implies_true, dT, dF, nL]
  (try with_reducible refine iC ?_)
  refine ⟨fun h0 => ?_, fun h0 => ?_⟩
  · repeat' (first | (with_reducible first | refine W ?_ | refine Wz0 ?_) | ((with_reducible first | refine Wo (fun K hK => ?_) | refine Wq ?_ | refine Wr ?_); (try simp only [go_sem, fN, seval, eT, iR]); (repeat with_reducible refine Ai ?_); (try (refine hK _ ?_; clear hK K))))
    simp only [go_sem, fN, seval, FinQ, AS.result, resAll, resOne, tupV]
    unfold rawI
    rw [if_pos (by omega)]
  · have h1 := tmod_range (x := (i : Int)) (n := (l.length : Int)) (by omega) (by omega)
    have h2 := tdiv_range (x := (i : Int)) (n := (l.length : Int)) (by omega) (by omega)
    have hlt : i % l.length < l.length := Nat.mod_lt _ (by omega)
    obtain ⟨a, ha⟩ := get_lt hlt
    have e1 : ((i : Int) % (l.length : Int)) = ((i % l.length : Nat) : Int) := by omega
    have e2 : ((i : Int) / (l.length : Int)) = ((i / l.length : Nat) : Int) := by omega
    have h3 : i / l.length ≤ i := Nat.div_le_self _ _
    repeat' (first | (with_reducible first | refine W ?_ | refine Wz0 ?_) | ((with_reducible first | refine Wo (fun K hK => ?_) | refine Wq ?_ | refine Wr ?_); (try simp only [go_sem, fN, seval, eT, iR, h1.1, h2.1, e1, e2, ha]); (repeat with_reducible refine Ai ?_); (try (refine hK _ ?_; clear hK K))))
    refine ⟨_, pick_a a 1000003 (hl a (mem_of_get ha)) (by omega), ?_⟩
    have hp := pickI_range a 1000003 (by omega)
    repeat' (first | (with_reducible first | refine W ?_ | refine Wz0 ?_) | ((with_reducible first | refine Wo (fun K hK => ?_) | refine Wq ?_ | refine Wr ?_); (try simp only [go_sem, fN, seval, eT, iR, h1.1, h2.1, e1, e2]); (repeat with_reducible refine Ai ?_); (try (refine hK _ ?_; clear hK K))))
    simp only [go_sem, fN, seval, FinQ, AS.result, resAll, resOne, tupV]
    unfold rawI
    rw [if_neg (by omega), List.getD_eq_getElem?_getD, ha]
    rfl
def LamAt (l : List Int) (at_ : Nat) (most under consts : Int) (t : Lm) (n : Nat) : Prop :=
  ACalls Tryd.prog 12 [aInts l, aInt at_, aInt most, aInt under, aInt consts] (.tup [aLm t, aInt n])
theorem chk_leaf {k i m u : Int} (h : (k = 1 ∧ 0 ≤ i ∧ i < u) ∨ (k = 4 ∧ 0 ≤ i ∧ i < 40)) : (Lm.mk k i []).chk m u = 0 := by
  rw [Lm.chk_eq]
  rcases h with ⟨rfl, h1, h2⟩ | ⟨rfl, h1, h2⟩ <;> simp [Lm.kind_mk, Lm.idx_mk, Lm.subs_mk, nSubs, mostIdx, h1, h2, Lm.chks]
theorem chk_fun {t : Lm} {m u : Int} (h : t.chk m (u + 1) = 0) : (Lm.l t).chk m u = 0 := by
  rw [Lm.chk_eq]
  simp [Lm.l, Lm.kind_mk, Lm.idx_mk, Lm.subs_mk, nSubs, mostIdx, under, Lm.chks, h]
theorem chk_app {f x : Lm} {m u : Int} (h1 : f.chk m u = 0) (h2 : x.chk m u = 0) : (Lm.a f x).chk m u = 0 := by
  rw [Lm.chk_eq]
  simp [Lm.a, Lm.kind_mk, Lm.idx_mk, Lm.subs_mk, nSubs, mostIdx, under, Lm.chks, h1, h2]

end Go.Proofs.YtadjhfokddfbiaaDoor
