/-
  Part 11 of the texts: PInfer; Shelf; IrBoth; BBoth; IrGen; BItoa; IrLam; BLam. Conditions: none.
-/
import Derived.Test.YtehnjhkndbcmgaaGreatDoorInM10
import Derived.Shelf.Strconv.Itoa3
import Derived.Shelf.SlSortCmp.WholeK
import Derived.Shelf.SlSortCmp.NoneTotal
import Derived.Test.YtehnjhkndbcmgaaGreatDoorProg
import Derived.Lib.AppendIntMem
import Derived.Lib.ItoaLen
import Derived.Lib.ItoaMem
namespace Go.Proofs.YtehnjhkndbcmgaaGreatDoor
open Go Go.RowKit
set_option linter.unusedVariables false
inductive Ty where
  | mk (base : Int) (subs : List Ty)
def Ty.base : Ty → Int | .mk k _ => k
def Ty.subs : Ty → List Ty | .mk _ xs => xs
theorem Ty.base_mk (k : Int) (xs : List Ty) : (Ty.mk k xs).base = k := rfl
theorem Ty.subs_mk (k : Int) (xs : List Ty) : (Ty.mk k xs).subs = xs := rfl
mutual
def encY : Ty → List SV
  | .mk k xs => [.int .i64 k, .list (encYs xs)]
def encYs : List Ty → List (List SV)
  | [] => []
  | t :: ts => encY t :: encYs ts
end
theorem encYs_eq : ∀ xs : List Ty, encYs xs = xs.map encY
  | [] => rfl
  | t :: ts => by rw [encYs, encYs_eq ts]; rfl
theorem encY_eq (t : Ty) : encY t = [.int .i64 t.base, .list (t.subs.map encY)] := by
  cases t
  rw [encY, encYs_eq]
  rfl
instance : Lens encY 2 := ⟨fun t => by rw [encY_eq]; rfl⟩
abbrev aTy (t : Ty) : AV := .agg [.st (.int .i64 t.base), .st (.list (t.subs.map encY))]
theorem known_ty {S : AStore} {t : Ty} (h : (aTy t).known S) : (-9223372036854775808 ≤ t.base ∧ t.base ≤ 9223372036854775807) ∧ t.subs.length ≤ 9223372036854775807 := by
  have h1 : inR .i64 t.base := by
    have := h (.st (.int .i64 t.base)) (by simp)
    simpa [AC.known, SV.known] using this
  have h3 : t.subs.length ≤ maxLen := by
    have := h (.st (.list (t.subs.map encY))) (by simp)
    simp only [AC.known, SV.known, List.length_map] at this
    exact this.1
  rw [inR_i64] at h1
  rw [maxLen_eq] at h3
  exact ⟨h1, h3⟩
theorem Ty.lt_of_mem {a : Ty} {k : Int} {xs : List Ty} (h : a ∈ xs) : SizeOf.sizeOf a < SizeOf.sizeOf (Ty.mk k xs) := by
  have := List.sizeOf_lt_of_mem h
  simp only [Ty.mk.sizeOf_spec]
  omega
theorem Ty.lt_of_sub {a t : Ty} (h : a ∈ t.subs) : SizeOf.sizeOf a < SizeOf.sizeOf t := by
  cases t
  exact Ty.lt_of_mem h
attribute [go_sem] Ty.base_mk Ty.subs_mk encY_eq
mutual
def Ty.size : Ty → Nat
  | .mk _ xs => 1 + Ty.sizes xs
def Ty.sizes : List Ty → Nat
  | [] => 0
  | t :: ts => t.size + Ty.sizes ts
end
theorem Ty.sizes_append (xs ys : List Ty) : Ty.sizes (xs ++ ys) = Ty.sizes xs + Ty.sizes ys := by
  induction xs with
  | nil => simp [Ty.sizes]
  | cons t ts ih => simp only [List.cons_append, Ty.sizes, ih]; omega
theorem Ty.sizes_take {xs : List Ty} {k : Nat} {a : Ty} (h : xs[k]? = some a) : Ty.sizes (xs.take (k+1)) = Ty.sizes (xs.take k) + a.size := by
  rw [take_snoc h, Ty.sizes_append]; simp [Ty.sizes]
theorem Ty.sizes_take_le (xs : List Ty) (k : Nat)  : Ty.sizes (xs.take k) ≤ Ty.sizes xs := by
  have := Ty.sizes_append (xs.take k) (xs.drop k)
  rw [List.take_append_drop] at this
  omega
theorem Ty.size_eq (t : Ty) : t.size = 1 + Ty.sizes t.subs := by cases t; rfl
theorem Ty.size_pos (t : Ty) : 1 ≤ t.size := by rw [Ty.size_eq]; omega
theorem Ty.size_mem {a : Ty} {xs : List Ty} (h : a ∈ xs) : a.size ≤ Ty.sizes xs := by
  induction xs with
  | nil => simp at h
  | cons t ts ih =>
    rcases List.mem_cons.1 h with rfl | h
    · simp only [Ty.sizes]; omega
    · have := ih h; simp only [Ty.sizes]; omega
theorem Ty.length_le (xs : List Ty) : xs.length ≤ Ty.sizes xs := by
  induction xs with
  | nil => simp [Ty.sizes]
  | cons t ts ih => have := Ty.size_pos t; simp only [Ty.sizes, List.length_cons]; omega
mutual
def Ty.chk : Ty → Int
  | .mk k xs => if xs.length = 0 ∨ (xs.length = 2 ∧ k = 0) then (if 0 ≤ k ∧ k ≤ 999 then Ty.chks xs else 10) else 2
def Ty.chks : List Ty → Int
  | [] => 0
  | t :: ts => if t.chk = 0 then Ty.chks ts else t.chk
end
theorem Ty.chk_eq (t : Ty) : t.chk = if t.subs.length = 0 ∨ (t.subs.length = 2 ∧ t.base = 0) then (if 0 ≤ t.base ∧ t.base ≤ 999 then Ty.chks t.subs else 10) else 2 := by cases t; rfl
theorem Ty.chks_append (xs ys : List Ty) : Ty.chks (xs ++ ys) = if Ty.chks xs = 0 then Ty.chks ys else Ty.chks xs := by
  induction xs with
  | nil => simp [Ty.chks]
  | cons t ts ih =>
    simp only [List.cons_append, Ty.chks]
    by_cases h : t.chk = 0
    · simp only [h, if_true, ih]
    · simp only [h, if_false]
theorem Ty.chks_take {xs : List Ty} {k : Nat} {a : Ty} (h : xs[k]? = some a) (h0 : Ty.chks (xs.take k) = 0) : Ty.chks (xs.take (k+1)) = a.chk := by
  rw [take_snoc h, Ty.chks_append, if_pos h0]
  simp only [Ty.chks]
  split <;> simp_all
theorem Ty.chks_bad {xs : List Ty} {k : Nat} (h0 : Ty.chks (xs.take k) ≠ 0) : Ty.chks xs = Ty.chks (xs.take k) := by
  have := Ty.chks_append (xs.take k) (xs.drop k)
  rw [List.take_append_drop, if_neg h0] at this
  exact this
def Ty.may (t : Ty) : Int := if 200 < t.size then 3 else t.chk
inductive BT where
  | b (n : Nat)
  | a (x y : BT)
  deriving DecidableEq
def BT.ty : BT → Ty
  | .b n => .mk n []
  | .a x y => .mk 0 [x.ty, y.ty]
def BT.low (m : Nat) : BT → Prop
  | .b n => n < m
  | .a x y => x.low m ∧ y.low m
def BT.sz : BT → Nat
  | .b _ => 1
  | .a x y => 1 + x.sz + y.sz
theorem BT.size_ty : ∀ x : BT, x.ty.size = x.sz
  | .b n => rfl
  | .a x y => by simp only [BT.ty, Ty.size, Ty.sizes, BT.sz, BT.size_ty x, BT.size_ty y]; omega
theorem bt_of {t : Ty} (h : t.chk = 0) : ∃ x : BT, t = x.ty ∧ x.low 1000 := by
  induction hN : SizeOf.sizeOf t using Nat.strongRecOn generalizing t with
  | _ N ih =>
  subst hN
  rw [Ty.chk_eq] at h
  split at h
  · rename_i h1
    split at h
    · rename_i h2
      rcases h1 with h1 | ⟨h1, h0⟩
      · cases t with
        | mk k xs =>
          have hx : xs = [] := List.eq_nil_of_length_eq_zero h1
          have hk : 0 ≤ k ∧ k ≤ 999 := h2
          subst hx
          refine ⟨.b k.toNat, ?_, by show k.toNat < 1000; omega⟩
          show Ty.mk k [] = Ty.mk (k.toNat : Int) []
          rw [Int.toNat_of_nonneg hk.1]
      · cases t with
        | mk k xs =>
          have hk : k = 0 := h0
          subst hk
          match xs, h1, h with
          | [x, y], _, h =>
            have h : Ty.chks [x, y] = 0 := h
            simp only [Ty.chks] at h
            split at h
            · rename_i hx
              split at h
              · rename_i hy
                obtain ⟨x', rfl, lx⟩ := ih _ (Ty.lt_of_mem (k := 0) (show x ∈ [x, y] by simp)) hx rfl
                obtain ⟨y', rfl, ly⟩ := ih _ (Ty.lt_of_mem (k := 0) (show y ∈ [x'.ty, y] by simp)) hy rfl
                exact ⟨.a x' y', rfl, lx, ly⟩
              · rename_i hy; exact absurd h hy
            · rename_i hx; exact absurd h hx
    · omega
  · omega
def BT.txt : BT → ByteArray
  | .b n => ⟨#[97]⟩ ++ decS n
  | .a (.b n) y => (BT.b n).txt ++ ⟨#[62]⟩ ++ y.txt
  | .a (.a u v) y => (⟨#[40]⟩ ++ (BT.a u v).txt ++ ⟨#[41]⟩) ++ ⟨#[62]⟩ ++ y.txt
theorem BT.txt_ab (n : Nat) (y : BT) : (BT.a (.b n) y).txt = (BT.b n).txt ++ ⟨#[62]⟩ ++ y.txt := by simp only [BT.txt]
theorem BT.txt_aa (u v y : BT) : (BT.a (.a u v) y).txt = (⟨#[40]⟩ ++ (BT.a u v).txt ++ ⟨#[41]⟩) ++ ⟨#[62]⟩ ++ y.txt := by simp only [BT.txt]
theorem BT.ty_b_base (n : Nat) : (BT.b n).ty.base = n := rfl
theorem BT.ty_b_subs (n : Nat) : (BT.b n).ty.subs = [] := rfl
theorem BT.ty_a_base (x y : BT) : (BT.a x y).ty.base = 0 := rfl
theorem BT.ty_a_subs (x y : BT) : (BT.a x y).ty.subs = [x.ty, y.ty] := rfl
attribute [go_sem] BT.ty_b_base BT.ty_b_subs BT.ty_a_base BT.ty_a_subs
def BT.sub : BT → List BT
  | .b _ => []
  | .a x y => [x, y]
theorem BT.ty_subs (x : BT) : x.ty.subs = x.sub.map BT.ty := by cases x <;> rfl
theorem BT.lt_sub {x y : BT} (h : y ∈ x.sub) : SizeOf.sizeOf y < SizeOf.sizeOf x := by
  cases x with
  | b n => simp [BT.sub] at h
  | a u v =>
    simp only [BT.sub, List.mem_cons, List.not_mem_nil, or_false] at h
    simp only [BT.a.sizeOf_spec]
    rcases h with rfl | rfl <;> omega
theorem BT.eq_of {x y : BT} (h1 : x.ty.base = y.ty.base) (h2 : x.sub = y.sub) : x = y := by
  cases x <;> cases y
  · simp only [BT.ty_b_base, Int.natCast_inj] at h1; rw [h1]
  · simp [BT.sub] at h2
  · simp [BT.sub] at h2
  · simp only [BT.sub, List.cons.injEq, and_true] at h2; rw [h2.1, h2.2]
theorem BT.txt_size : ∀ {x : BT}, x.low 1000000 → x.txt.size ≤ 8 * x.sz
  | .b n, h => by
    have := decS_size_le (n := n) h
    simp only [BT.txt, ByteArray.size_append, BT.sz]
    have : (⟨#[97]⟩ : ByteArray).size = 1 := rfl
    omega
  | .a (.b n) y, h => by
    have h1 := BT.txt_size (x := .b n) h.1
    have h2 := BT.txt_size h.2
    rw [BT.txt, ByteArray.size_append, ByteArray.size_append]
    have : (⟨#[62]⟩ : ByteArray).size = 1 := rfl
    simp only [BT.sz] at *
    omega
  | .a (.a u v) y, h => by
    have h1 := BT.txt_size (x := .a u v) h.1
    have h2 := BT.txt_size h.2
    rw [BT.txt]
    simp only [ByteArray.size_append]
    have e1 : (⟨#[62]⟩ : ByteArray).size = 1 := rfl
    have e2 : (⟨#[40]⟩ : ByteArray).size = 1 := rfl
    have e3 : (⟨#[41]⟩ : ByteArray).size = 1 := rfl
    simp only [BT.sz] at *
    omega
def fS : ByteArray := ⟨#[102]⟩
def arrT (a b : Tm) : Tm := .mk fS [a, b]
def lName (c : UInt8) (n : Nat) : ByteArray := ⟨#[c]⟩ ++ decS n
def lLeaf (c : UInt8) (n : Nat) : Tm := .mk (lName c n) []
theorem lName_list (c : UInt8) (n : Nat) : (lName c n).data.toList = c :: Lib.decDigits n := by
  unfold lName decS
  simp
theorem lName_inj {c : UInt8} {m n : Nat} (h : lName c m = lName c n) : m = n := by
  have h1 := congrArg (fun b : ByteArray => b.data.toList) h
  simp only [lName_list] at h1
  have h2 := congrArg digV (List.cons.inj h1).2
  rwa [digV_dec, digV_dec] at h2
theorem lName_at (c : UInt8) (n : Nat) : byteAt (lName c n) 0 = (c.toNat : Int) := by
  unfold byteAt
  rw [lName_list]
  rfl
theorem lName_size (c : UInt8) (n : Nat) : (lName c n).size = 1 + Lib.nDigits n := by
  have : (lName c n).size = (lName c n).data.toList.length := by
    show (lName c n).data.size = _
    rw [Array.length_toList]
  rw [this, lName_list, List.length_cons, Lib.decDigits_length]
  omega
theorem lName_var {c : UInt8} (hc : 65 ≤ c.toNat ∧ c.toNat ≤ 90) (n : Nat) : isVar (lName c n) = true := by
  unfold isVar
  rw [lName_at, lName_size, decide_eq_true (by omega), decide_eq_true (show (65 : Int) ≤ (c.toNat : Int) by omega), decide_eq_true (show (c.toNat : Int) ≤ 90 by omega)]
  rfl
theorem lName_ok {c : UInt8} (hc : 65 ≤ c.toNat ∧ c.toNat ≤ 90) {n : Nat} (h : n < 1000000) : nameOk (lName c n) = true := by
  have h6 := nDig_le (u := n) (k := 6) (by omega) (by omega)
  unfold nameOk
  rw [lName_at, lName_size, decide_eq_true (show 1 ≤ 1 + Lib.nDigits n by omega), decide_eq_true (show 1 + Lib.nDigits n ≤ 8 by omega), decide_eq_true (show (48 : Int) ≤ (c.toNat : Int) by omega), decide_eq_false (show ¬ (c.toNat : Int) ≤ 57 by omega)]
  have : lettersTo (lName c n) (1 + Lib.nDigits n) = true := by
    unfold lettersTo
    rw [lName_list]
    refine List.all_eq_true.2 fun d hd => ?_
    have hd := List.mem_of_mem_take hd
    rcases List.mem_cons.1 hd with rfl | hd
    · unfold letterI
      rw [decide_eq_true (show (65 : Int) ≤ (d.toNat : Int) ∧ (d.toNat : Int) ≤ 90 by omega), Bool.or_true, Bool.true_or]
    · have := digits_letters _ d hd
      unfold letterI
      rw [decide_eq_true (show 48 ≤ (d.toNat : Int) ∧ (d.toNat : Int) ≤ 57 by omega), Bool.or_true]
  rw [this]
  rfl
def BT.tm (c : UInt8) : BT → Tm
  | .b n => lLeaf c n
  | .a x y => arrT (x.tm c) (y.tm c)
theorem arrT_size (a b : Tm) : (arrT a b).size = 1 + a.size + b.size := by simp only [arrT, Tm.size, Tm.sizes]; omega
theorem BT.tm_size (c : UInt8) : ∀ x : BT, (x.tm c).size = x.sz
  | .b n => rfl
  | .a x y => by rw [BT.tm, arrT_size, BT.tm_size c x, BT.tm_size c y]; rfl
theorem fS_var : isVar fS = false := by decide
theorem BT.tm_inj {c : UInt8} (hc : 65 ≤ c.toNat ∧ c.toNat ≤ 90) : ∀ {x y : BT}, x.tm c = y.tm c → x = y
  | .b m, .b n, h => by
    have h1 : lName c m = lName c n := congrArg Tm.name h
    rw [lName_inj h1]
  | .a x y, .a x' y', h => by
    have h1 := congrArg Tm.args h
    simp only [BT.tm, arrT, Tm.args_mk, List.cons.injEq, and_true] at h1
    rw [BT.tm_inj hc h1.1, BT.tm_inj hc h1.2]
  | .b m, .a x y, h => by
    have h1 := congrArg Tm.args h
    simp [BT.tm, arrT, lLeaf, Tm.args_mk] at h1
  | .a x y, .b m, h => by
    have h1 := congrArg Tm.args h
    simp [BT.tm, arrT, lLeaf, Tm.args_mk] at h1
inductive TT : Tm → Prop
  | v {n : ByteArray} : isVar n = true → nameOk n = true → TT (.mk n [])
  | f {a b : Tm} : TT a → TT b → TT (arrT a b)
theorem TT.chk {t : Tm} (h : TT t) : t.chk = 0 := by
  induction h with
  | @v n h1 h2 =>
    refine chk_mk ?_ fun a ha => by simp [Tm.args_mk] at ha
    unfold chkOne
    rw [Tm.name_mk, if_pos h2, if_neg (by simp [Tm.args_mk])]
  | @f a b _ _ ha hb =>
    refine chk_mk (by unfold chkOne arrT; rw [Tm.name_mk, if_pos (show nameOk fS = true by decide), if_neg (by rw [fS_var]; simp)]) fun c hc => ?_
    simp only [arrT, Tm.args_mk, List.mem_cons, List.not_mem_nil, or_false] at hc
    rcases hc with rfl | rfl
    · exact ha
    · exact hb
theorem lLeaf_tt {c : UInt8} (hc : 65 ≤ c.toNat ∧ c.toNat ≤ 90) {n : Nat} (h : n < 1000000) : TT (lLeaf c n) := .v (lName_var hc n) (lName_ok hc h)
theorem TT.on {s : List Bd} (hs : ∀ b ∈ s, TT b.2) {t : Tm} (h : TT t) (hv : ∀ b ∈ s, isVar b.1 = true) : TT (t.on s) := by
  induction h with
  | @v n h1 h2 =>
    cases hl : lookup s n with
    | some x =>
      rw [Tm.on_leaf (t := .mk n []) (by rw [Tm.name_mk]; exact hl) rfl]
      obtain ⟨b, hb, _, rfl⟩ := lookup_mem hl
      exact hs b hb
    | none =>
      rw [Tm.on_knot (t := .mk n []) (.inl (by rw [Tm.name_mk]; exact hl))]
      exact .v h1 h2
  | @f a b _ _ ha hb =>
    have hl : lookup s fS = none := lookup_none fun c hc e => by
      have := hv c hc
      rw [e, fS_var] at this
      cases this
    rw [arrT, Tm.on_knot (t := .mk fS [a, b]) (.inl (by rw [Tm.name_mk]; exact hl))]
    exact .f ha hb
theorem TT.args {t a : Tm} (h : TT t) (ha : a ∈ t.args) : TT a := by
  cases h with
  | v => simp [Tm.args_mk] at ha
  | @f x y hx hy =>
    simp only [arrT, Tm.args_mk, List.mem_cons, List.not_mem_nil, or_false] at ha
    rcases ha with rfl | rfl
    · exact hx
    · exact hy
def TTs (s : List Bd) : Prop := ∀ b ∈ s, TT b.2 ∧ isVar b.1 = true
theorem bindV_tt {s : List Bd} {x : ByteArray} {t : Tm} (hs : TTs s) (hx : isVar x = true) (ht : TT t) {s' : List Bd} {ps : List Pr} (h : bindV s x t = .go s' ps) : TTs s' ∧ ps = [] := by
  unfold bindV at h
  split at h
  · cases h
  split at h
  · cases h
    refine ⟨fun b hb => ?_, rfl⟩
    rcases List.mem_append.1 (sortB_mem.1 hb) with hb | hb
    · obtain ⟨c, hc, rfl⟩ := List.mem_map.1 hb
      exact ⟨(hs c hc).1.on (s := [(x, t)]) (by simpa using ht) (by simpa using hx), (hs c hc).2⟩
    · rw [List.mem_singleton] at hb
      subst hb
      exact ⟨ht, hx⟩
  · cases h
theorem stepU_tt {s : List Bd} {p : Pr} (hs : TTs s) (h1 : TT p.1) (h2 : TT p.2) {s' : List Bd} {ps : List Pr} (h : stepU s p = .go s' ps) : TTs s' ∧ ∀ q ∈ ps, TT q.1 ∧ TT q.2 := by
  have a1 := h1.on (fun b hb => (hs b hb).1) fun b hb => (hs b hb).2
  have a2 := h2.on (fun b hb => (hs b hb).1) fun b hb => (hs b hb).2
  unfold stepU at h
  split at h
  · cases h
  split at h
  · cases h; exact ⟨hs, by simp⟩
  split at h
  · rename_i hv
    obtain ⟨k1, rfl⟩ := bindV_tt hs hv a2 h
    exact ⟨k1, by simp⟩
  split at h
  · rename_i hv
    obtain ⟨k1, rfl⟩ := bindV_tt hs hv a1 h
    exact ⟨k1, by simp⟩
  split at h
  · cases h
    refine ⟨hs, fun q hq => ?_⟩
    have := zip_mem hq
    exact ⟨a1.args this.1, a2.args this.2⟩
  · cases h
theorem uends_tt {n : Nat} {s : List Bd} {l : List Pr} {r : List Bd × Int} (h : UEnds n s l r) : TTs s → (∀ q ∈ l, TT q.1 ∧ TT q.2) → TTs r.1 := by
  induction h with
  | nil => exact fun h _ => h
  | err => exact fun _ _ b hb => by simp at hb
  | @go s p l s' ps n r hst hr ih =>
    intro hs hl
    obtain ⟨k1, k2⟩ := stepU_tt hs (hl p (by simp)).1 (hl p (by simp)).2 hst
    refine ih k1 fun q hq => ?_
    rcases List.mem_append.1 hq with hq | hq
    · exact k2 q hq
    · exact hl q (by simp [hq])
theorem stepU_err_tt {s : List Bd} {p : Pr} (hs : TTs s) (h1 : TT p.1) (h2 : TT p.2) {e : Int} (h : stepU s p = .err e) : e = 6 ∨ e = 8 := by
  have a1 := h1.on (fun b hb => (hs b hb).1) fun b hb => (hs b hb).2
  have a2 := h2.on (fun b hb => (hs b hb).1) fun b hb => (hs b hb).2
  have hb : ∀ x t, bindV s x t = .err e → e = 6 ∨ e = 8 := fun x t h => by
    unfold bindV at h
    split at h
    · cases h; exact .inl rfl
    · split at h
      · cases h
      · cases h; exact .inr rfl
  unfold stepU at h
  split at h
  · cases h; exact .inr rfl
  split at h
  · cases h
  split at h
  · exact hb _ _ h
  split at h
  · exact hb _ _ h
  rename_i n1 n2
  split at h
  · cases h
  · rename_i hne
    exfalso
    generalize p.1.on s = u at *
    generalize p.2.on s = v at *
    cases a1 with
    | v hv _ => exact n1 hv
    | f _ _ =>
      cases a2 with
      | v hv _ => exact n2 hv
      | f _ _ => exact hne ⟨rfl, rfl⟩
theorem uends_err_tt {n : Nat} {s : List Bd} {l : List Pr} {r : List Bd × Int} (h : UEnds n s l r) : TTs s → (∀ q ∈ l, TT q.1 ∧ TT q.2) → r.2 = 0 ∨ r.2 = 6 ∨ r.2 = 8 := by
  induction h with
  | nil => exact fun _ _ => .inl rfl
  | err he => exact fun hs hl => .inr (stepU_err_tt hs (hl _ (by simp)).1 (hl _ (by simp)).2 he)
  | @go s p l s' ps n r hst hr ih =>
    intro hs hl
    obtain ⟨k1, k2⟩ := stepU_tt hs (hl p (by simp)).1 (hl p (by simp)).2 hst
    refine ih k1 fun q hq => ?_
    rcases List.mem_append.1 hq with hq | hq
    · exact k2 q hq
    · exact hl q (by simp [hq])
def Tm.bk : Tm → List ByteArray → BT × List ByteArray
  | .mk n [], l => (.b (posN l n), addN l n)
  | .mk n [x], l => (.b 0, l)
  | .mk n (x :: y :: _), l => (.a (x.bk l).1 (y.bk (x.bk l).2).1, (y.bk (x.bk l).2).2)
theorem bk_leaf (n : ByteArray) (l : List ByteArray) : (Tm.mk n []).bk l = (.b (posN l n), addN l n) := by rw [Tm.bk]
theorem bk_arr (a b : Tm) (l : List ByteArray) : (arrT a b).bk l = (.a (a.bk l).1 (b.bk (a.bk l).2).1, (b.bk (a.bk l).2).2) := by rw [arrT, Tm.bk]
theorem bk_vars {t : Tm} (h : TT t) : ∀ l, (t.bk l).2 = addVars l t.knots := by
  induction h with
  | @v n h1 h2 =>
    intro l
    rw [bk_leaf, Tm.knots_eq]
    show addN l n = addVar l n
    exact addN_var h1
  | @f a b _ _ ha hb =>
    intro l
    rw [bk_arr, Tm.knots_eq]
    simp only [arrT, Tm.args_mk, Tm.knotsL, List.append_nil]
    rw [hb, ha]
    show _ = addVars (addVar l fS) (a.knots ++ b.knots)
    rw [addVar_no fS_var, addVars_append]
theorem bk_goes {t : Tm} (h : TT t) : ∀ l, GoesN l (t.bk l).2 := by
  induction h with
  | @v n h1 h2 => intro l; rw [bk_leaf]; exact goesN_add l n
  | @f a b _ _ ha hb => intro l; rw [bk_arr]; exact (ha l).trans (hb _)
def Tm.asB (m : List ByteArray) : Tm → BT
  | .mk n [] => .b (posN m n)
  | .mk n [x] => .b 0
  | .mk n (x :: y :: _) => .a (x.asB m) (y.asB m)
theorem asB_leaf (n : ByteArray) (l : List ByteArray) : (Tm.mk n []).asB l = .b (posN l n) := by rw [Tm.asB]
theorem asB_arr (a b : Tm) (l : List ByteArray) : (arrT a b).asB l = .a (a.asB l) (b.asB l) := by rw [arrT, Tm.asB]
theorem bk_asB {t : Tm} (h : TT t) : ∀ l m, GoesN (t.bk l).2 m → (t.bk l).1 = t.asB m := by
  induction h with
  | @v n h1 h2 =>
    intro l m hg
    rw [bk_leaf] at hg ⊢
    rw [asB_leaf, (goesN_pos hg).1]
  | @f a b ta tb ha hb =>
    intro l m hg
    rw [bk_arr] at hg ⊢
    rw [asB_arr]
    simp only
    rw [hb _ m hg, ha l m ((bk_goes tb _).trans hg)]
theorem bk_in {t : Tm} (h : TT t) : ∀ l m, GoesN (t.bk l).2 m → (t.asB m).low m.length := by
  induction h with
  | @v n h1 h2 =>
    intro l m hg
    rw [bk_leaf] at hg
    rw [asB_leaf]
    exact (goesN_pos hg).2
  | @f a b ta tb ha hb =>
    intro l m hg
    rw [bk_arr] at hg
    rw [asB_arr]
    exact ⟨ha l m ((bk_goes tb _).trans hg), hb _ m hg⟩
theorem asB_size {t : Tm} (h : TT t) (m : List ByteArray) : (t.asB m).sz = t.size := by
  induction h with
  | v => rw [asB_leaf]; rfl
  | @f a b ta tb ha hb => rw [asB_arr, arrT_size, BT.sz, ha, hb]
theorem vars_len (t : Tm) : t.varsOf.length ≤ t.size := by
  have := addVars_length t.knots []
  rw [Tm.knots_length] at this
  simpa [Tm.varsOf] using this
inductive UL where
  | v (i : Nat)
  | l (b : UL)
  | a (f x : UL)
def UL.lm : UL → Lm
  | .v i => .mk 1 i []
  | .l b => .mk 2 0 [b.lm]
  | .a f x => .mk 3 0 [f.lm, x.lm]
def UL.closed : UL → Nat → Prop
  | .v i, u => i < u
  | .l b, u => b.closed (u + 1)
  | .a f x, u => f.closed u ∧ x.closed u
def UL.sz : UL → Nat
  | .v _ => 1
  | .l b => 1 + b.sz
  | .a f x => 1 + f.sz + x.sz
theorem UL.size_lm : ∀ x : UL, x.lm.size = x.sz
  | .v i => rfl
  | .l b => by simp only [UL.lm, Lm.size, Lm.sizes, UL.sz, UL.size_lm b, Nat.add_zero]
  | .a f x => by simp only [UL.lm, Lm.size, Lm.sizes, UL.sz, UL.size_lm f, UL.size_lm x]; omega
theorem ul_of {t : Lm} {u : Nat} (h : t.chk 0 u = 0) (hp : t.pure = true) : ∃ x : UL, t = x.lm ∧ x.closed u := by
  induction hN : SizeOf.sizeOf t using Nat.strongRecOn generalizing t u with
  | _ N ih =>
  subst hN
  cases t with
  | mk k i xs =>
  rw [Lm.chk] at h
  rw [Lm.pure, Bool.and_eq_true, Bool.not_eq_true', decide_eq_false_iff_not] at hp
  obtain ⟨h4, hp⟩ := hp
  split at h
  · rename_i h1
    obtain ⟨h1, h5, h6⟩ := h1
    split at h
    · rename_i h2
      have hk : k = 1 ∨ k = 2 ∨ k = 3 ∨ k = 5 := by omega
      rcases hk with rfl | rfl | rfl | rfl
      · have hx : xs = [] := List.eq_nil_of_length_eq_zero (by simpa [nSubs] using h6)
        subst hx
        have h2 : 0 ≤ i ∧ i < u := by simpa [mostIdx] using h2
        refine ⟨.v i.toNat, ?_, by show i.toNat < u; omega⟩
        show Lm.mk 1 i [] = Lm.mk 1 (i.toNat : Int) []
        rw [Int.toNat_of_nonneg h2.1]
      · have h6 : xs.length = 1 := by have : (xs.length : Int) = 1 := by simpa [nSubs] using h6
                                      omega
        have h2 : i = 0 := by have : 0 ≤ i ∧ i < 1 := by simpa [mostIdx] using h2
                              omega
        subst h2
        match xs, h6, h, hp with
        | [x], _, h, hp =>
          simp only [Lm.chks, under, Int.reduceEq, ↓reduceIte] at h
          have hx : x.chk 0 ((u + 1 : Nat) : Int) = 0 := by
            rw [Int.natCast_add]
            split at h
            · assumption
            · exact h
          simp only [Lm.pures, Bool.and_true] at hp
          obtain ⟨x', rfl, c⟩ := ih _ (Lm.lt_of_mem (k := 2) (i := 0) (show x ∈ [x] by simp)) hx hp rfl
          exact ⟨.l x', rfl, c⟩
      · have h6 : xs.length = 2 := by have : (xs.length : Int) = 2 := by simpa [nSubs] using h6
                                      omega
        have h2 : i = 0 := by have : 0 ≤ i ∧ i < 1 := by simpa [mostIdx] using h2
                              omega
        subst h2
        match xs, h6, h, hp with
        | [x, y], _, h, hp =>
          simp only [Lm.chks, under, Int.reduceEq, ↓reduceIte] at h
          have hx : x.chk 0 u = 0 := by
            split at h
            · assumption
            · exact h
          have hy : y.chk 0 u = 0 := by
            rw [if_pos hx] at h
            split at h
            · assumption
            · exact h
          simp only [Lm.pures, Bool.and_true, Bool.and_eq_true] at hp
          obtain ⟨x', rfl, c⟩ := ih _ (Lm.lt_of_mem (k := 3) (i := 0) (show x ∈ [x, y] by simp)) hx hp.1 rfl
          obtain ⟨y', rfl, d⟩ := ih _ (Lm.lt_of_mem (k := 3) (i := 0) (show y ∈ [x'.lm, y] by simp)) hy hp.2 rfl
          exact ⟨.a x' y', rfl, c, d⟩
      · have h2 : 0 ≤ i ∧ i < 0 := by simpa [mostIdx] using h2
        omega
    · omega
  · omega
theorem ul_pure : ∀ x : UL, x.lm.pure = true
  | .v i => rfl
  | .l b => by simp [UL.lm, Lm.pure, Lm.pures, ul_pure b]
  | .a f x => by simp [UL.lm, Lm.pure, Lm.pures, ul_pure f, ul_pure x]
theorem ul_chk : ∀ (x : UL) (u : Nat), x.closed u → x.lm.chk 0 u = 0
  | .v i, u, h => by
    have h : i < u := h
    rw [UL.lm, Lm.chk, if_pos (by simp [nSubs]), if_pos (by simp [mostIdx]; omega)]
    rfl
  | .l b, u, h => by
    have hb : b.lm.chk 0 ((u : Int) + 1) = 0 := by
      have := ul_chk b (u + 1) h
      simpa using this
    rw [UL.lm, Lm.chk, if_pos (by simp [nSubs]), if_pos (by simp [mostIdx])]
    simp only [Lm.chks, under, if_pos]
    simp [hb]
  | .a f x, u, h => by
    have h1 := ul_chk f u h.1
    have h2 := ul_chk x u h.2
    rw [UL.lm, Lm.chk, if_pos (by simp [nSubs]), if_pos (by simp [mostIdx])]
    simp [Lm.chks, under, h1, h2]
theorem ul_may {x : UL} (h : x.closed 0) (hz : x.sz ≤ 200) : x.lm.may 0 0 = 0 := by
  unfold Lm.may
  rw [if_neg (by omega), UL.size_lm, if_neg (by omega)]
  exact ul_chk x 0 h
def tvar (n : Nat) : Tm := lLeaf 84 n
def UL.ty : UL → List Tm → List Pr × Nat → Tm × (List Pr × Nat)
  | .v i, und, m => (und.getD (und.length - 1 - i) Tm.nil, m)
  | .l b, und, m => (arrT (tvar (m.2 + 1)) (b.ty (und ++ [tvar (m.2 + 1)]) (m.1, m.2 + 1)).1, (b.ty (und ++ [tvar (m.2 + 1)]) (m.1, m.2 + 1)).2)
  | .a f x, und, m => (tvar ((x.ty und (f.ty und m).2).2.2 + 1), ((x.ty und (f.ty und m).2).2.1 ++ [((f.ty und m).1, arrT (x.ty und (f.ty und m).2).1 (tvar ((x.ty und (f.ty und m).2).2.2 + 1)))], (x.ty und (f.ty und m).2).2.2 + 1))
def inT (n : Nat) (t : Tm) : Prop := TT t ∧ ∀ y, occ y t = true → y = fS ∨ ∃ k, 1 ≤ k ∧ k ≤ n ∧ y = lName 84 k
theorem inT.more {m n : Nat} {t : Tm} (h : inT m t) (hm : m ≤ n) : inT n t := ⟨h.1, fun y hy => (h.2 y hy).imp id fun ⟨k, k1, k2, k3⟩ => ⟨k, k1, by omega, k3⟩⟩
theorem inT_var {n k : Nat} (h1 : 1 ≤ k) (h2 : k ≤ n) (h3 : k < 1000000) : inT n (tvar k) := ⟨lLeaf_tt (by decide) h3, fun y hy => by
  rw [occ_iff] at hy
  rcases hy with hy | ⟨a, ha, _⟩
  · exact .inr ⟨k, h1, h2, hy.symm⟩
  · simp [tvar, lLeaf, Tm.args_mk] at ha⟩
theorem inT_arr {n : Nat} {a b : Tm} (ha : inT n a) (hb : inT n b) : inT n (arrT a b) := ⟨.f ha.1 hb.1, fun y hy => by
  rw [occ_iff] at hy
  rcases hy with hy | ⟨c, hc, hy⟩
  · exact .inl hy.symm
  · simp only [arrT, Tm.args_mk, List.mem_cons, List.not_mem_nil, or_false] at hc
    rcases hc with rfl | rfl
    · exact ha.2 y hy
    · exact hb.2 y hy⟩
structure TyOk (K : Nat) (m : List Pr × Nat) : Prop where
  eqs : ∀ p ∈ m.1, (inT m.2 p.1 ∧ p.1.size ≤ K) ∧ (inT m.2 p.2 ∧ p.2.size ≤ K)
theorem TyOk.more {K : Nat} {l : List Pr} {m n : Nat} (h : TyOk K (l, m)) (hm : m ≤ n) : TyOk K (l, n) := ⟨fun p hp => ⟨⟨(h.eqs p hp).1.1.more hm, (h.eqs p hp).1.2⟩, (h.eqs p hp).2.1.more hm, (h.eqs p hp).2.2⟩⟩
theorem ty_ok (K : Nat) : ∀ (x : UL) (und : List Tm) (m : List Pr × Nat), x.closed und.length → (∀ t ∈ und, inT m.2 t ∧ t.size = 1) → 2 * x.sz + 2 ≤ K → m.2 + x.sz < 1000000 → TyOk K m →
    TyOk K (x.ty und m).2 ∧ m.2 ≤ (x.ty und m).2.2 ∧ (x.ty und m).2.2 ≤ m.2 + x.sz ∧ inT (x.ty und m).2.2 (x.ty und m).1 ∧ (x.ty und m).1.size ≤ 2 * x.sz ∧ (x.ty und m).2.1.length ≤ m.1.length + x.sz
  | .v i, und, m, hc, hu, hK, hn, hm => by
    have hc : i < und.length := hc
    obtain ⟨t, ht⟩ := get_lt (show und.length - 1 - i < und.length by omega)
    have e : und.getD (und.length - 1 - i) Tm.nil = t := by rw [List.getD_eq_getElem?_getD, ht]; rfl
    have := hu t (mem_of_get ht)
    simp only [UL.ty, e, UL.sz]
    exact ⟨hm, by omega, by omega, this.1, by omega, by omega⟩
  | .l b, und, m, hc, hu, hK, hn, hm => by
    simp only [UL.sz] at hK hn ⊢
    have hv : inT (m.2 + 1) (tvar (m.2 + 1)) := inT_var (by omega) (by omega) (by omega)
    obtain ⟨h1, h2, h3, h4, h5, h6⟩ := ty_ok K b (und ++ [tvar (m.2 + 1)]) (m.1, m.2 + 1) (by rw [List.length_append]; exact hc) (fun t ht => by
      rcases List.mem_append.1 ht with ht | ht
      · exact ⟨(hu t ht).1.more (by simp), (hu t ht).2⟩
      · rw [List.mem_singleton] at ht
        subst ht
        exact ⟨hv, rfl⟩) (by omega) (by show m.2 + 1 + b.sz < _; omega) (TyOk.more (m := m.2) hm (by omega))
    simp only at h2 h3 h6
    simp only [UL.ty]
    refine ⟨h1, by omega, by omega, inT_arr (hv.more h2) h4, ?_, by omega⟩
    rw [arrT_size]
    have : (tvar (m.2 + 1)).size = 1 := rfl
    omega
  | .a f x, und, m, hc, hu, hK, hn, hm => by
    simp only [UL.sz] at hK hn ⊢
    obtain ⟨h1, h2, h3, h4, h5, h6⟩ := ty_ok K f und m hc.1 hu (by omega) (by omega) hm
    obtain ⟨k1, k2, k3, k4, k5, k6⟩ := ty_ok K x und (f.ty und m).2 hc.2 (fun t ht => ⟨(hu t ht).1.more h2, (hu t ht).2⟩) (by omega) (by omega) h1
    simp only [UL.ty]
    generalize hn' : (x.ty und (f.ty und m).2).2.2 = n' at *
    have hv : inT (n' + 1) (tvar (n' + 1)) := inT_var (by omega) (by omega) (by omega)
    have hv1 : (tvar (n' + 1)).size = 1 := rfl
    refine ⟨⟨fun p hp => ?_⟩, by omega, by omega, hv, by omega, by rw [List.length_append, List.length_singleton]; omega⟩
    rcases List.mem_append.1 hp with hp | hp
    · have := k1.eqs p hp
      rw [hn'] at this
      exact ⟨⟨this.1.1.more (by simp), this.1.2⟩, this.2.1.more (by simp), this.2.2⟩
    · rw [List.mem_singleton] at hp
      subst hp
      refine ⟨⟨h4.more (by simp only; omega), by simp only; omega⟩, inT_arr (k4.more (by simp)) hv, ?_⟩
      simp only
      rw [arrT_size]
      omega
def BT.cs : BT → BT → (Nat → Option BT) → Option (Nat → Option BT)
  | .b n, t, env => match env n with
    | some x => if x = t then some env else none
    | none => some fun i => if i = n then some t else env i
  | .a x y, .a x' y', env => match x.cs x' env with
    | some e => y.cs y' e
    | none => none
  | .a _ _, .b _, _ => none
def isCaseB (p t : BT) : Bool := (p.cs t fun _ => none).isSome
def Says (l : List Bd) (env : Nat → Option BT) : Prop := ∀ n, lookup l (lName 80 n) = (env n).map (BT.tm 81)
theorem mt_cs : ∀ (p t : BT) (l : List Bd) (env : Nat → Option BT), Says l env → match p.cs t env with
    | some e => ((p.tm 80).mt (t.tm 81) l).2 = true ∧ Says ((p.tm 80).mt (t.tm 81) l).1 e
    | none => ((p.tm 80).mt (t.tm 81) l).2 = false
  | .b n, t, l, env, h => by
    have hv : isVar ((BT.b n).tm 80).name = true := lName_var (by decide) n
    have hl := h n
    rw [BT.cs]
    cases he : env n with
    | some x =>
      rw [he] at hl
      have hm := Tm.mt_old (t := t.tm 81) hv hl
      by_cases e : x = t
      · simp only [if_pos e]
        rw [hm]
        subst e
        exact ⟨(Tm.beq_iff _ _).2 rfl, h⟩
      · simp only [if_neg e]
        rw [hm]
        cases hb : (x.tm 81).beq (t.tm 81) with
        | false => rfl
        | true => exact absurd (BT.tm_inj (by decide) ((Tm.beq_iff _ _).1 hb)) e
    | none =>
      rw [he] at hl
      have hm := Tm.mt_new (t := t.tm 81) hv hl
      simp only
      rw [hm]
      refine ⟨rfl, fun k => ?_⟩
      rw [lookup_append]
      have hn : ((BT.b n).tm 80).name = lName 80 n := rfl
      by_cases e : k = n
      · subst e
        rw [h k, he, hn, lookup_cons, if_pos rfl]
        simp
      · have : ¬ lName 80 n = lName 80 k := fun hh => e (lName_inj hh).symm
        rw [h k, hn, lookup_cons, if_neg this, lookup_nil]
        simp only [if_neg e]
        cases env k with
        | some x => rfl
        | none => rfl
  | .a x y, .a x' y', l, env, h => by
    have h1 := mt_cs x x' l env h
    have hk : ((BT.a x y).tm 80).mt ((BT.a x' y').tm 81) l = Tm.mtL [x.tm 80, y.tm 80] [x'.tm 81, y'.tm 81] l := Tm.mt_knot (by exact fS_var) rfl rfl
    rw [hk, BT.cs]
    simp only [Tm.mtL]
    cases hc : x.cs x' env with
    | none =>
      rw [hc] at h1
      simp only at h1 ⊢
      rw [h1]
      rfl
    | some e =>
      rw [hc] at h1
      simp only at h1 ⊢
      rw [h1.1, if_pos rfl]
      have h2 := mt_cs y y' _ e h1.2
      cases hc2 : y.cs y' e with
      | none =>
        rw [hc2] at h2
        simp only at h2 ⊢
        rw [h2]
        rfl
      | some e2 =>
        rw [hc2] at h2
        simp only at h2 ⊢
        rw [h2.1, if_pos rfl]
        exact ⟨rfl, h2.2⟩
  | .a x y, .b n, l, env, h => by
    have hk : ((BT.a x y).tm 80).mt ((BT.b n).tm 81) l = (l, false) := Tm.mt_clash (by exact fS_var) (fun hh => by
      have := hh.2
      simp [BT.tm, arrT, lLeaf, Tm.args_mk] at this)
    rw [hk, BT.cs]
theorem isCase_bt (p t : BT) : isCase (p.tm 80) (t.tm 81) = isCaseB p t := by
  have h := mt_cs p t [] (fun _ => none) (fun n => by simp [lookup_nil])
  unfold isCase isCaseB
  cases hc : p.cs t fun _ => none with
  | none => rw [hc] at h; exact h
  | some e => rw [hc] at h; exact h.1
end Go.Proofs.YtehnjhkndbcmgaaGreatDoor

namespace Go.Proofs.YtehnjhkndbcmgaaGreatDoor
open Go Go.Proofs Go.Shelf
def Tryz.laysM171_ren : Go.Shelf.Ren := ⟨fun | 171 => 87 | 243 => 114 | 246 => 127 | 283 => 140 | 284 => 141 | 285 => 142 | 286 => 143 | 129 => 139 | 317 => 150 | 318 => 151 | 319 => 152 | 320 => 153 | 337 => 155 | 338 => 156 | n => n, fun | 3 => 3 | 9 => 9 | 2 => 2 | 4 => 4 | 171 => 178 | 0 => 0 | 53 => 177 | 37 => 105 | 5 => 5 | 173 => 180 | 212 => 191 | 51 => 175 | 20 => 20 | 213 => 192 | 46 => 160 | 232 => 197 | 233 => 198 | n => n, fun | 17 => 1 | 18 => 2 | 19 => 3 | n => n⟩
theorem Tryz.laysM171 : Go.Proofs.LaysM.n171 Tryz.prog Tryz.laysM171_ren := {
  mixed := by kernel_rfl
  f129 := Tryz.func139.trans (congrArg some (by kernel_rfl))
  f171 := Tryz.func87.trans (congrArg some (by kernel_rfl))
  f243 := Tryz.func114.trans (congrArg some (by kernel_rfl))
  f246 := Tryz.func127.trans (congrArg some (by kernel_rfl))
  f283 := Tryz.func140.trans (congrArg some (by kernel_rfl))
  f284 := Tryz.func141.trans (congrArg some (by kernel_rfl))
  f285 := Tryz.func142.trans (congrArg some (by kernel_rfl))
  f286 := Tryz.func143.trans (congrArg some (by kernel_rfl))
  f317 := Tryz.func150.trans (congrArg some (by kernel_rfl))
  f318 := Tryz.func151.trans (congrArg some (by kernel_rfl))
  f319 := Tryz.func152.trans (congrArg some (by kernel_rfl))
  f320 := Tryz.func153.trans (congrArg some (by kernel_rfl))
  f337 := Tryz.func155.trans (congrArg some (by kernel_rfl))
  f338 := Tryz.func156.trans (congrArg some (by kernel_rfl))
  t0 := Tryz.underlying0
  a0 := Tryz.isAgg0
  z0 := Tryz.sizeOf0
  v0 := Tryz.zeroValue0
  t2 := Tryz.underlying2
  a2 := Tryz.isAgg2
  z2 := Tryz.sizeOf2
  v2 := Tryz.zeroValue2
  t3 := Tryz.underlying3
  a3 := Tryz.isAgg3
  z3 := Tryz.sizeOf3
  v3 := Tryz.zeroValue3
  t4 := Tryz.underlying4
  a4 := Tryz.isAgg4
  z4 := Tryz.sizeOf4
  v4 := Tryz.zeroValue4
  t5 := Tryz.underlying5
  a5 := Tryz.isAgg5
  z5 := Tryz.sizeOf5
  v5 := Tryz.zeroValue5
  t9 := Tryz.underlying9
  a9 := Tryz.isAgg9
  z9 := Tryz.sizeOf9
  v9 := Tryz.zeroValue9
  t20 := Tryz.underlying20
  a20 := Tryz.isAgg20
  z20 := Tryz.sizeOf20
  v20 := Tryz.zeroValue20
  t37 := Tryz.underlying105
  a37 := Tryz.isAgg105
  z37 := Tryz.sizeOf105
  v37 := Tryz.zeroValue105
  t46 := Tryz.underlying160
  a46 := Tryz.isAgg160
  z46 := Tryz.sizeOf160
  v46 := Tryz.zeroValue160
  t51 := Tryz.underlying175
  a51 := Tryz.isAgg175
  z51 := Tryz.sizeOf175
  v51 := Tryz.zeroValue175
  t53 := Tryz.underlying177
  a53 := Tryz.isAgg177
  z53 := Tryz.sizeOf177
  v53 := Tryz.zeroValue177
  t171 := Tryz.underlying178
  a171 := Tryz.isAgg178
  z171 := Tryz.sizeOf178
  v171 := Tryz.zeroValue178
  t173 := Tryz.underlying180
  a173 := Tryz.isAgg180
  z173 := Tryz.sizeOf180
  v173 := Tryz.zeroValue180
  t212 := Tryz.underlying191
  a212 := Tryz.isAgg191
  z212 := Tryz.sizeOf191
  v212 := Tryz.zeroValue191
  t213 := Tryz.underlying192
  a213 := Tryz.isAgg192
  z213 := Tryz.sizeOf192
  t232 := Tryz.underlying197
  a232 := Tryz.isAgg197
  z232 := Tryz.sizeOf197
  v232 := Tryz.zeroValue197
  t233 := Tryz.underlying198
  a233 := Tryz.isAgg198
  z233 := Tryz.sizeOf198
  v233 := Tryz.zeroValue198
  g17 := by kernel_rfl
  g18 := by kernel_rfl
  g19 := by kernel_rfl
  i0 := by kernel_rfl
  i2 := by kernel_rfl
  i3 := by kernel_rfl
  i4 := by kernel_rfl
  i5 := by kernel_rfl
  i9 := by kernel_rfl
  i20 := by kernel_rfl
  i37 := by kernel_rfl
  i46 := by kernel_rfl
  i51 := by kernel_rfl
  i53 := by kernel_rfl
  i171 := by kernel_rfl
  i173 := by kernel_rfl
  i212 := by kernel_rfl
  i232 := by kernel_rfl
  i233 := by kernel_rfl
  m17 := by kernel_rfl
  m18 := by kernel_rfl
  m19 := by kernel_rfl }
def Tryz.sortBd_ren : Go.Shelf.Ren := ⟨fun | 6 => 109 | 15 => 122 | 14 => 121 | 28 => 138 | 29 => 139 | 20 => 130 | 21 => 131 | 22 => 132 | 23 => 133 | 24 => 134 | 25 => 135 | 26 => 136 | 27 => 137 | 46 => 145 | 47 => 146 | 48 => 147 | 49 => 148 | 50 => 149 | 57 => 154 | n => n, fun | 22 => 71 | 24 => 118 | 25 => 151 | 3 => 3 | 39 => 160 | 0 => 0 | 53 => 175 | 55 => 177 | 4 => 4 | 46 => 169 | 45 => 168 | 50 => 130 | 5 => 5 | 9 => 9 | 66 => 183 | 70 => 187 | 76 => 194 | 77 => 195 | n => n, fun | n => n⟩
theorem Tryz.sortBd : Go.Proofs.SlLaysF0.n6 Tryz.prog Tryz.sortBd_ren := {
  mixed := by kernel_rfl
  f6 := ⟨Tryz.f109.name, by decide, Tryz.func109.trans (congrArg some (by kernel_rfl))⟩
  f14 := ⟨Tryz.f121.name, by decide, Tryz.func121.trans (congrArg some (by kernel_rfl))⟩
  f15 := Tryz.func122.trans (congrArg some (by kernel_rfl))
  f20 := ⟨Tryz.f130.name, by decide, Tryz.func130.trans (congrArg some (by kernel_rfl))⟩
  f21 := ⟨Tryz.f131.name, by decide, Tryz.func131.trans (congrArg some (by kernel_rfl))⟩
  f22 := ⟨Tryz.f132.name, by decide, Tryz.func132.trans (congrArg some (by kernel_rfl))⟩
  f23 := ⟨Tryz.f133.name, by decide, Tryz.func133.trans (congrArg some (by kernel_rfl))⟩
  f24 := ⟨Tryz.f134.name, by decide, Tryz.func134.trans (congrArg some (by kernel_rfl))⟩
  f25 := ⟨Tryz.f135.name, by decide, Tryz.func135.trans (congrArg some (by kernel_rfl))⟩
  f26 := ⟨Tryz.f136.name, by decide, Tryz.func136.trans (congrArg some (by kernel_rfl))⟩
  f27 := ⟨Tryz.f137.name, by decide, Tryz.func137.trans (congrArg some (by kernel_rfl))⟩
  f28 := Tryz.func138.trans (congrArg some (by kernel_rfl))
  f29 := Tryz.func139.trans (congrArg some (by kernel_rfl))
  f46 := ⟨Tryz.f145.name, by decide, Tryz.func145.trans (congrArg some (by kernel_rfl))⟩
  f47 := Tryz.func146.trans (congrArg some (by kernel_rfl))
  f48 := Tryz.func147.trans (congrArg some (by kernel_rfl))
  f49 := ⟨Tryz.f148.name, by decide, Tryz.func148.trans (congrArg some (by kernel_rfl))⟩
  f50 := ⟨Tryz.f149.name, by decide, Tryz.func149.trans (congrArg some (by kernel_rfl))⟩
  f57 := ⟨Tryz.f154.name, by decide, Tryz.func154.trans (congrArg some (by kernel_rfl))⟩
  t0 := Tryz.underlying0
  a0 := Tryz.isAgg0
  z0 := Tryz.sizeOf0
  v0 := Tryz.zeroValue0
  t3 := Tryz.underlying3
  a3 := Tryz.isAgg3
  z3 := Tryz.sizeOf3
  v3 := Tryz.zeroValue3
  t4 := Tryz.underlying4
  a4 := Tryz.isAgg4
  z4 := Tryz.sizeOf4
  v4 := Tryz.zeroValue4
  t5 := Tryz.underlying5
  a5 := Tryz.isAgg5
  z5 := Tryz.sizeOf5
  v5 := Tryz.zeroValue5
  t9 := Tryz.underlying9
  a9 := Tryz.isAgg9
  z9 := Tryz.sizeOf9
  v9 := Tryz.zeroValue9
  t22 := Tryz.underlying71
  a22 := Tryz.isAgg71
  z22 := Tryz.sizeOf71
  v22 := Tryz.zeroValue71
  t25 := Tryz.underlying151
  a25 := Tryz.isAgg151
  z25 := Tryz.sizeOf151
  v25 := Tryz.zeroValue151
  t39 := Tryz.underlying160
  a39 := Tryz.isAgg160
  z39 := Tryz.sizeOf160
  v39 := Tryz.zeroValue160
  t45 := Tryz.underlying168
  a45 := Tryz.isAgg168
  z45 := Tryz.sizeOf168
  v45 := Tryz.zeroValue168
  t46 := Tryz.underlying169
  a46 := Tryz.isAgg169
  z46 := Tryz.sizeOf169
  v46 := Tryz.zeroValue169
  t50 := Tryz.underlying130
  a50 := Tryz.isAgg130
  z50 := Tryz.sizeOf130
  v50 := Tryz.zeroValue130
  t53 := Tryz.underlying175
  a53 := Tryz.isAgg175
  z53 := Tryz.sizeOf175
  v53 := Tryz.zeroValue175
  t55 := Tryz.underlying177
  a55 := Tryz.isAgg177
  z55 := Tryz.sizeOf177
  v55 := Tryz.zeroValue177
  t66 := Tryz.underlying183
  a66 := Tryz.isAgg183
  z66 := Tryz.sizeOf183
  v66 := Tryz.zeroValue183
  t70 := Tryz.underlying187
  a70 := Tryz.isAgg187
  z70 := Tryz.sizeOf187
  v70 := Tryz.zeroValue187
  t76 := Tryz.underlying194
  a76 := Tryz.isAgg194
  z76 := Tryz.sizeOf194
  v76 := Tryz.zeroValue194
  t77 := Tryz.underlying195
  a77 := Tryz.isAgg195
  z77 := Tryz.sizeOf195
  v77 := Tryz.zeroValue195 }
end Go.Proofs.YtehnjhkndbcmgaaGreatDoor

namespace Go.Proofs.YtehnjhkndbcmgaaGreatDoor
open Go Go.RowKit
set_option maxRecDepth 100000
end Go.Proofs.YtehnjhkndbcmgaaGreatDoor

namespace Go.Proofs.YtehnjhkndbcmgaaGreatDoor
open Go Go.RowKit
set_option linter.unusedVariables false
set_option linter.unusedSimpArgs false
set_option maxHeartbeats 800000
end Go.Proofs.YtehnjhkndbcmgaaGreatDoor

namespace Go.Proofs.YtehnjhkndbcmgaaGreatDoor
open Go Go.RowKit
set_option maxRecDepth 100000
def ir_R_Dec : IR :=
  (.seq (.ops [.i 2 (.mov (.c (.one (.st (.str (ByteArray.mk (#[])))))))]) (.seq (.seq (.ops [.i 3 (.mov (.t 0)), .i 4 (.bin .lss (.t 3) (.n 10))]) (.cond (.t 4) (.seq (.ops [.i 5 (.mov (.t 0)), .i 6 (.bin .add (.n 48) (.t 5)), .i 7 (.conv .u8 (.t 6)), .i 8 (.buildFlat [.t 7]), .i 9 (.strOf (.t 8)), .i 2 (.mov (.t 9))]) .ret) .skip)) (.seq (.ops [.i 10 (.mov (.t 0)), .i 11 (.bin .quo (.t 10) (.n 10)), .i 12 (.call 32 [.t 11]), .i 13 (.mov (.t 0)), .i 14 (.bin .rem (.t 13) (.n 10)), .i 15 (.call 32 [.t 14]), .i 16 (.bin .add (.t 12) (.t 15)), .i 2 (.mov (.t 16))]) .ret)))
theorem tr_R_Dec : trCode Tryz.prog 17 [] (Tryz.f32.body.getD .skip) = some ir_R_Dec := by kernel_rfl
theorem ac_R_Dec {xs : List AV} {r : AV} (hn : xs.length ≤ 17) (h : ∀ C : Ctx, C.n = 17 → IWP Tryz.prog C [] ir_R_Dec (FinQ [.t 2] r) (AS.start xs)) : ACalls Tryz.prog 32 xs r :=
  acalls_of Tryz.func32 rfl tr_R_Dec rfl hn h
end Go.Proofs.YtehnjhkndbcmgaaGreatDoor

namespace Go.Proofs.YtehnjhkndbcmgaaGreatDoor
open Go Go.RowKit
set_option linter.unusedVariables false
set_option linter.unusedSimpArgs false
set_option maxHeartbeats 1000000
theorem one_arg {σ : Sto} {vs : List Value} {x : AV} (h : All2 (VRep σ noS noH) vs [x]) : ∃ v, vs = [v] ∧ VRep σ noS noH v x := by
  cases h with
  | cons h1 h2 =>
    cases h2
    exact ⟨_, rfl, h1⟩
theorem itoa_a (n : Nat) (hn : n < 1000000) : ACalls Tryz.prog 87 [aInt n] (aStr (decS n)) := by
  intro σ w vs hG hF hv
  obtain ⟨v, rfl, h1⟩ := one_arg hv
  obtain ⟨rfl, hin⟩ := vrep_int h1
  have ht : Lib.TabIs Tryz.prog w "internal/strconv.uint64pow10" .u64 Lib.pow10Tab := hG.ints hF (g := 1) (by kernel_rfl) (by kernel_rfl)
  refine (Any.strconv_Itoa Tryz.laysM171 n (by omega) (by omega) w ht).mono fun e w' ⟨he, k, os, hw⟩ => ?_
  have hb : Below w.heap.size w w' := by
    rw [hw]
    exact Lib.below_grow _ _ (Nat.le_refl _) _ _
  have hd : (⟨(Lib.itoa (n : Int)).toArray⟩ : ByteArray) = decS n := by rw [Lib.itoa_nonneg]; rfl
  rw [hd] at he
  refine ⟨_, σ, he, .one (.st (.str ?_)), hF.below hb, Ext.refl _ _, hb⟩
  have := decS_size_le hn
  rw [maxLen_eq]
  omega
theorem decR_a (n : Nat) (hn : n < 1000000) : ACalls Tryz.prog 32 [aInt n] (aStr (decS n)) := by
  induction n using Nat.strongRecOn with
  | _ n ih =>
  refine ac_R_Dec (Nat.le_of_ble_eq_true rfl) fun C hC => ?_
  unfold ir_R_Dec
  by_cases h : (n : Int) < 10
  · have hb : bytesOf [[SV.int .u8 (48 + (n : Int))]] = some [48 + (n : Int)] := rfl
    have hr : inR .u8 (48 + (n : Int)) := by simp [inR, IntKind.min, IntKind.max, IntKind.signed, IntKind.bits]; omega
    have hs : strOfNums [48 + (n : Int)] = decS n := by
      rw [decS_small (by omega)]
      unfold strOfNums
      have e : (48 + (n : Int)).toNat = 48 + n := by omega
      simp only [List.map_cons, List.map_nil, e]
    repeat' (first | (with_reducible first | refine W ?_ | refine Wk (by decide) ?_) | ((with_reducible first | refine Wo (fun K hK => ?_) | refine Wp ?_ | refine Wq ?_ | refine Wr ?_); (try simp only [go_sem, fN, ↓gI, ↓pI, seval, eT, iR, h, hb, hr, hs, dT, dF, nL]); (repeat with_reducible refine And.intro (by first | omega | exact lens | (simp [maxLen_eq] <;> omega)) ?_); (try (refine hK _ ?_; clear hK K)); (try with_reducible refine iC ?_)))
    simp only [go_sem, fN, ↓gI, ↓pI, seval, FinQ, AS.result, resAll, resOne, tupV]
  · have q1 : (n : Int).tdiv 10 = ((n / 10 : Nat) : Int) := by rw [Int.tdiv_eq_ediv_of_nonneg (by omega)]; omega
    have q2 : (n : Int).tmod 10 = ((n % 10 : Nat) : Int) := by rw [Int.tmod_eq_emod_of_nonneg (by omega)]; omega
    have h1 := ih (n / 10) (by omega) (by omega)
    have h2 := ih (n % 10) (by omega) (by omega)
    have z1 := decS_size_le (n := n / 10) (by omega)
    have z2 := decS_size_le (n := n % 10) (by omega)
    repeat' (first | (with_reducible first | refine W ?_ | refine Wk (by decide) ?_) | refine Cg _ (h1) ?_ | refine Cg _ (h2) ?_ | ((with_reducible first | refine Wo (fun K hK => ?_) | refine Wp ?_ | refine Wq ?_ | refine Wr ?_); (try simp only [go_sem, fN, ↓gI, ↓pI, seval, eT, iR, h, q1, q2, dT, dF, nL]); (repeat with_reducible refine And.intro (by first | omega | exact lens | (simp [maxLen_eq] <;> omega)) ?_); (try (refine hK _ ?_; clear hK K)); (try with_reducible refine iC ?_)))
    simp only [go_sem, fN, ↓gI, ↓pI, seval, FinQ, AS.result, resAll, resOne, tupV]
    rw [decS_big (n := n) (by omega)]
end Go.Proofs.YtehnjhkndbcmgaaGreatDoor

namespace Go.Proofs.YtehnjhkndbcmgaaGreatDoor
open Go Go.RowKit
set_option maxRecDepth 100000
def ir_lambda_within : IR :=
  (.seq (.ops [.i 2 (.box 24 (.t 0)), .i 4 (.mov (.n 0))]) (.seq (.ops [.i 7 (.mov (.t 1)), .i 8 (.bin .sub (.t 7) (.n 1)), .i 1 (.mov (.t 8))]) (.seq (.seq (.ops [.i 9 (.fieldAddr 2 (.t 2)), .i 10 (.load false 1 (.t 9)), .i 11 (.len false (.t 10)), .i 12 (.mov (.n 0))]) (.block 0 (.loop (.seq (.ops [.i 13 (.bin .lss (.t 12) (.t 11))]) (.seq (.cond (.t 13) .skip (.exit 0)) (.seq (.block 1 (.seq (.ops [.i 14 (.indexAddr 3 (.t 10) (.t 12)), .i 15 (.load true 3 (.t 14)), .i 6 (.alloc 24 [.st (.int .i64 0), .st (.int .i64 0), .full []]), .mk none none (.store 3 (.t 6) (.t 15)) .no]) (.seq (.seq (.ops [.i 16 (.mov (.t 1)), .i 17 (.bin .lss (.t 16) (.n 0))]) (.cond (.t 17) (.exit 0) .skip)) (.ops [.i 18 (.load true 3 (.t 6)), .i 19 (.mov (.t 1)), .i 20 (.call 106 [.t 18, .t 19]), .i 1 (.mov (.t 20))])))) (.ops [.i 21 (.bin .add (.t 12) (.n 1)), .i 12 (.mov (.t 21))]))))))) (.seq (.ops [.i 22 (.mov (.t 1)), .i 4 (.mov (.t 22))]) .ret))))
theorem tr_lambda_within : trCode Tryz.prog 23 [] (Tryz.f106.body.getD .skip) = some ir_lambda_within := by kernel_rfl
theorem ac_lambda_within {xs : List AV} {r : AV} (hn : xs.length ≤ 23) (h : ∀ C : Ctx, C.n = 23 → IWP Tryz.prog C [] ir_lambda_within (FinQ [.t 4] r) (AS.start xs)) : ACalls Tryz.prog 106 xs r :=
  acalls_of Tryz.func106 rfl tr_lambda_within rfl hn h
def ir_lambda_check : IR :=
  (.seq (.ops [.i 3 (.box 24 (.t 0)), .i 6 (.mov (.n 0))]) (.seq (.seq (.ops [.i 11 (.fieldAddr 0 (.t 3)), .i 12 (.load false 1 (.t 11)), .i 13 (.bin .lss (.t 12) (.n 1)), .i 14 (.mov (.t 13)), .mk (some 15) (some (14, false)) (.fieldAddr 0 (.t 3)) .no, .mk (some 16) (some (14, false)) (.load false 1 (.t 15)) .no, .mk (some 17) (some (14, false)) (.bin .gtr (.t 16) (.n 5)) .no, .i 18 (.pick (.t 14) (.c (.one (.st (.bool true)))) (.t 17)), .i 19 (.mov (.t 18)), .mk (some 20) (some (19, false)) (.fieldAddr 2 (.t 3)) .no, .mk (some 21) (some (19, false)) (.load false 1 (.t 20)) .no, .mk (some 22) (some (19, false)) (.len false (.t 21)) .no, .mk (some 23) (some (19, false)) (.fieldAddr 0 (.t 3)) .no, .mk (some 24) (some (19, false)) (.load false 1 (.t 23)) .no, .mk (some 25) (some (19, false)) (.indexArr 6 1 (.c (.one (.eptr [.int .i64 0, .int .i64 0, .int .i64 1, .int .i64 2, .int .i64 0, .int .i64 0]))) (.t 24)) .no, .mk (some 26) (some (19, false)) (.load false 1 (.t 25)) .no, .mk (some 27) (some (19, false)) (.bin .neq (.t 22) (.t 26)) .no, .i 28 (.pick (.t 19) (.c (.one (.st (.bool true)))) (.t 27))]) (.cond (.t 28) (.seq (.ops [.i 6 (.mov (.n 2))]) .ret) .skip)) (.seq (.ops [.i 7 (.mov (.n 1))]) (.seq (.seq (.ops [.i 29 (.fieldAddr 0 (.t 3)), .i 30 (.load false 1 (.t 29))]) (.block 0 (.seq (.ops [.i 32 (.bin .eql (.t 30) (.n 1)), .i 31 (.mov (.t 32))]) (.cond (.t 31) (.ops [.i 33 (.mov (.t 1)), .i 7 (.mov (.t 33))]) (.seq (.ops [.i 35 (.bin .eql (.t 30) (.n 4)), .i 34 (.mov (.t 35))]) (.cond (.t 34) (.ops [.i 7 (.mov (.n 40))]) (.seq (.ops [.i 37 (.bin .eql (.t 30) (.n 5)), .i 36 (.mov (.t 37))]) (.cond (.t 36) (.ops [.i 38 (.mov (.t 2)), .i 7 (.mov (.t 38))]) .skip)))))))) (.seq (.seq (.ops [.i 39 (.fieldAddr 1 (.t 3)), .i 40 (.load false 1 (.t 39)), .i 41 (.bin .lss (.t 40) (.n 0)), .i 42 (.mov (.t 41)), .mk (some 43) (some (42, false)) (.fieldAddr 1 (.t 3)) .no, .mk (some 44) (some (42, false)) (.load false 1 (.t 43)) .no, .mk (some 45) (some (42, false)) (.mov (.t 7)) .no, .mk (some 46) (some (42, false)) (.bin .geq (.t 44) (.t 45)) .no, .i 47 (.pick (.t 42) (.c (.one (.st (.bool true)))) (.t 46))]) (.cond (.t 47) (.seq (.ops [.i 6 (.mov (.n 15))]) .ret) .skip)) (.seq (.seq (.ops [.i 48 (.fieldAddr 0 (.t 3)), .i 49 (.load false 1 (.t 48)), .i 50 (.bin .eql (.t 49) (.n 2))]) (.cond (.t 50) (.ops [.i 51 (.mov (.t 1)), .i 52 (.bin .add (.t 51) (.n 1)), .i 1 (.mov (.t 52))]) .skip)) (.seq (.seq (.ops [.i 53 (.fieldAddr 2 (.t 3)), .i 54 (.load false 1 (.t 53)), .i 55 (.len false (.t 54)), .i 56 (.mov (.n 0))]) (.block 1 (.loop (.seq (.ops [.i 57 (.bin .lss (.t 56) (.t 55))]) (.seq (.cond (.t 57) .skip (.exit 1)) (.seq (.block 2 (.seq (.ops [.i 58 (.indexAddr 3 (.t 54) (.t 56)), .i 59 (.load true 3 (.t 58)), .i 9 (.alloc 24 [.st (.int .i64 0), .st (.int .i64 0), .full []]), .mk none none (.store 3 (.t 9) (.t 59)) .no]) (.seq (.ops [.i 60 (.load true 3 (.t 9)), .i 61 (.mov (.t 1)), .i 62 (.mov (.t 2)), .i 63 (.call 107 [.t 60, .t 61, .t 62]), .i 10 (.mov (.t 63))]) (.seq (.ops [.i 64 (.mov (.t 10)), .i 65 (.bin .neq (.t 64) (.n 0))]) (.cond (.t 65) (.seq (.ops [.i 66 (.mov (.t 10)), .i 6 (.mov (.t 66))]) .ret) .skip))))) (.ops [.i 67 (.bin .add (.t 56) (.n 1)), .i 56 (.mov (.t 67))]))))))) (.seq (.ops [.i 6 (.mov (.n 0))]) .ret))))))))
theorem tr_lambda_check : trCode Tryz.prog 68 [] (Tryz.f107.body.getD .skip) = some ir_lambda_check := by kernel_rfl
theorem ac_lambda_check {xs : List AV} {r : AV} (hn : xs.length ≤ 68) (h : ∀ C : Ctx, C.n = 68 → IWP Tryz.prog C [] ir_lambda_check (FinQ [.t 6] r) (AS.start xs)) : ACalls Tryz.prog 107 xs r :=
  acalls_of Tryz.func107 rfl tr_lambda_check rfl hn h
def ir_lambda_CheckWith : IR :=
  (.seq (.ops [.i 3 (.box 24 (.t 0)), .i 6 (.mov (.n 0))]) (.seq (.seq (.ops [.i 7 (.mov (.t 1)), .i 8 (.bin .lss (.t 7) (.n 0)), .i 9 (.mov (.t 8)), .mk (some 10) (some (9, false)) (.mov (.t 1)) .no, .mk (some 11) (some (9, false)) (.bin .gtr (.t 10) (.n 40)) .no, .i 12 (.pick (.t 9) (.c (.one (.st (.bool true)))) (.t 11))]) (.cond (.t 12) (.seq (.ops [.i 6 (.mov (.n 10))]) .ret) .skip)) (.seq (.seq (.ops [.i 13 (.load true 3 (.t 3)), .i 14 (.call 106 [.t 13, .n 200]), .i 15 (.bin .lss (.t 14) (.n 0))]) (.cond (.t 15) (.seq (.ops [.i 6 (.mov (.n 3))]) .ret) .skip)) (.seq (.ops [.i 16 (.load true 3 (.t 3)), .i 17 (.mov (.t 1)), .i 18 (.mov (.t 2)), .i 19 (.call 107 [.t 16, .t 17, .t 18]), .i 6 (.mov (.t 19))]) .ret))))
theorem tr_lambda_CheckWith : trCode Tryz.prog 20 [] (Tryz.f75.body.getD .skip) = some ir_lambda_CheckWith := by kernel_rfl
theorem ac_lambda_CheckWith {xs : List AV} {r : AV} (hn : xs.length ≤ 20) (h : ∀ C : Ctx, C.n = 20 → IWP Tryz.prog C [] ir_lambda_CheckWith (FinQ [.t 6] r) (AS.start xs)) : ACalls Tryz.prog 75 xs r :=
  acalls_of Tryz.func75 rfl tr_lambda_CheckWith rfl hn h
def ir_lambda_Check : IR :=
  (.seq (.ops [.i 2 (.box 24 (.t 0)), .i 4 (.mov (.n 0))]) (.seq (.ops [.i 5 (.load true 3 (.t 2)), .i 6 (.mov (.t 1)), .i 7 (.call 75 [.t 5, .t 6, .n 0]), .i 4 (.mov (.t 7))]) .ret))
theorem tr_lambda_Check : trCode Tryz.prog 8 [] (Tryz.f42.body.getD .skip) = some ir_lambda_Check := by kernel_rfl
theorem ac_lambda_Check {xs : List AV} {r : AV} (hn : xs.length ≤ 8) (h : ∀ C : Ctx, C.n = 8 → IWP Tryz.prog C [] ir_lambda_Check (FinQ [.t 4] r) (AS.start xs)) : ACalls Tryz.prog 42 xs r :=
  acalls_of Tryz.func42 rfl tr_lambda_Check rfl hn h
def ir_R_LamSize : IR :=
  (.seq (.ops [.i 2 (.box 24 (.t 0)), .i 4 (.mov (.n 0))]) (.seq (.ops [.i 5 (.mov (.n 1))]) (.seq (.seq (.ops [.i 6 (.mov (.n 0))]) (.block 0 (.loop (.seq (.seq (.ops [.i 7 (.mov (.t 6)), .i 8 (.fieldAddr 2 (.t 2)), .i 9 (.load false 1 (.t 8)), .i 10 (.len false (.t 9)), .i 11 (.bin .lss (.t 7) (.t 10)), .i 12 (.mov (.t 11)), .mk (some 13) (some (12, true)) (.mov (.t 5)) .no, .mk (some 14) (some (12, true)) (.mov (.t 1)) .no, .mk (some 15) (some (12, true)) (.bin .leq (.t 13) (.t 14)) .no, .i 16 (.pick (.t 12) (.t 15) (.c (.one (.st (.bool false)))))]) (.cond (.t 16) .skip (.exit 0))) (.seq (.block 1 (.ops [.i 19 (.mov (.t 5)), .i 20 (.fieldAddr 2 (.t 2)), .i 21 (.load false 1 (.t 20)), .i 22 (.mov (.t 6)), .i 23 (.indexAddr 3 (.t 21) (.t 22)), .i 24 (.load true 3 (.t 23)), .i 25 (.mov (.t 1)), .i 26 (.mov (.t 5)), .i 27 (.bin .sub (.t 25) (.t 26)), .i 28 (.call 15 [.t 24, .t 27]), .i 29 (.bin .add (.t 19) (.t 28)), .i 5 (.mov (.t 29))])) (.ops [.i 17 (.mov (.t 6)), .i 18 (.bin .add (.t 17) (.n 1)), .i 6 (.mov (.t 18))])))))) (.seq (.seq (.ops [.i 30 (.mov (.t 5)), .i 31 (.mov (.t 1)), .i 32 (.bin .gtr (.t 30) (.t 31))]) (.cond (.t 32) (.seq (.ops [.i 33 (.mov (.t 1)), .i 34 (.bin .add (.t 33) (.n 1)), .i 4 (.mov (.t 34))]) .ret) .skip)) (.seq (.ops [.i 35 (.mov (.t 5)), .i 4 (.mov (.t 35))]) .ret)))))
theorem tr_R_LamSize : trCode Tryz.prog 36 [] (Tryz.f15.body.getD .skip) = some ir_R_LamSize := by kernel_rfl
theorem ac_R_LamSize {xs : List AV} {r : AV} (hn : xs.length ≤ 36) (h : ∀ C : Ctx, C.n = 36 → IWP Tryz.prog C [] ir_R_LamSize (FinQ [.t 4] r) (AS.start xs)) : ACalls Tryz.prog 15 xs r :=
  acalls_of Tryz.func15 rfl tr_R_LamSize rfl hn h
def ir_R_LamMay : IR :=
  (.seq (.ops [.i 3 (.box 24 (.t 0)), .i 6 (.mov (.n 0))]) (.seq (.seq (.ops [.i 7 (.mov (.t 1)), .i 8 (.bin .lss (.t 7) (.n 0)), .i 9 (.mov (.t 8)), .mk (some 10) (some (9, false)) (.mov (.t 1)) .no, .mk (some 11) (some (9, false)) (.bin .gtr (.t 10) (.n 40)) .no, .i 12 (.pick (.t 9) (.c (.one (.st (.bool true)))) (.t 11))]) (.cond (.t 12) (.seq (.ops [.i 6 (.mov (.n 10))]) .ret) .skip)) (.seq (.seq (.ops [.i 13 (.load true 3 (.t 3)), .i 14 (.call 15 [.t 13, .n 200]), .i 15 (.bin .gtr (.t 14) (.n 200))]) (.cond (.t 15) (.seq (.ops [.i 6 (.mov (.n 3))]) .ret) .skip)) (.seq (.ops [.i 16 (.load true 3 (.t 3)), .i 17 (.mov (.t 1)), .i 18 (.mov (.t 2)), .i 19 (.call 36 [.t 16, .t 17, .t 18]), .i 6 (.mov (.t 19))]) .ret))))
theorem tr_R_LamMay : trCode Tryz.prog 20 [] (Tryz.f13.body.getD .skip) = some ir_R_LamMay := by kernel_rfl
theorem ac_R_LamMay {xs : List AV} {r : AV} (hn : xs.length ≤ 20) (h : ∀ C : Ctx, C.n = 20 → IWP Tryz.prog C [] ir_R_LamMay (FinQ [.t 6] r) (AS.start xs)) : ACalls Tryz.prog 13 xs r :=
  acalls_of Tryz.func13 rfl tr_R_LamMay rfl hn h
def ir_R_lamMay : IR :=
  (.seq (.ops [.i 3 (.box 24 (.t 0)), .i 6 (.mov (.n 0))]) (.seq (.ops [.i 7 (.mov (.n 1))]) (.seq (.ops [.i 8 (.mov (.n 0))]) (.seq (.ops [.i 12 (.mov (.t 1)), .i 9 (.mov (.t 12))]) (.seq (.seq (.ops [.i 13 (.fieldAddr 0 (.t 3)), .i 14 (.load false 1 (.t 13))]) (.block 0 (.seq (.ops [.i 16 (.bin .eql (.t 14) (.n 1)), .i 15 (.mov (.t 16))]) (.cond (.t 15) (.ops [.i 17 (.mov (.t 1)), .i 7 (.mov (.t 17))]) (.seq (.ops [.i 19 (.bin .eql (.t 14) (.n 2)), .i 18 (.mov (.t 19))]) (.cond (.t 18) (.seq (.ops [.i 8 (.mov (.n 1))]) (.ops [.i 20 (.mov (.t 1)), .i 21 (.bin .add (.t 20) (.n 1)), .i 9 (.mov (.t 21))])) (.seq (.ops [.i 23 (.bin .eql (.t 14) (.n 3)), .i 22 (.mov (.t 23))]) (.cond (.t 22) (.ops [.i 8 (.mov (.n 2))]) (.seq (.ops [.i 25 (.bin .eql (.t 14) (.n 4)), .i 24 (.mov (.t 25))]) (.cond (.t 24) (.ops [.i 7 (.mov (.n 40))]) (.seq (.ops [.i 27 (.bin .eql (.t 14) (.n 5)), .i 26 (.mov (.t 27))]) (.cond (.t 26) (.ops [.i 28 (.mov (.t 2)), .i 7 (.mov (.t 28))]) (.seq (.ops [.i 6 (.mov (.n 2))]) .ret))))))))))))) (.seq (.seq (.ops [.i 29 (.fieldAddr 2 (.t 3)), .i 30 (.load false 1 (.t 29)), .i 31 (.len false (.t 30)), .i 32 (.mov (.t 8)), .i 33 (.bin .neq (.t 31) (.t 32))]) (.cond (.t 33) (.seq (.ops [.i 6 (.mov (.n 2))]) .ret) .skip)) (.seq (.seq (.ops [.i 34 (.fieldAddr 1 (.t 3)), .i 35 (.load false 1 (.t 34)), .i 36 (.bin .lss (.t 35) (.n 0)), .i 37 (.mov (.t 36)), .mk (some 38) (some (37, false)) (.fieldAddr 1 (.t 3)) .no, .mk (some 39) (some (37, false)) (.load false 1 (.t 38)) .no, .mk (some 40) (some (37, false)) (.mov (.t 7)) .no, .mk (some 41) (some (37, false)) (.bin .geq (.t 39) (.t 40)) .no, .i 42 (.pick (.t 37) (.c (.one (.st (.bool true)))) (.t 41))]) (.cond (.t 42) (.seq (.ops [.i 6 (.mov (.n 15))]) .ret) .skip)) (.seq (.seq (.ops [.i 10 (.mov (.n 0))]) (.block 1 (.loop (.seq (.seq (.ops [.i 43 (.mov (.t 10)), .i 44 (.mov (.t 8)), .i 45 (.bin .lss (.t 43) (.t 44))]) (.cond (.t 45) .skip (.exit 1))) (.seq (.block 2 (.seq (.ops [.i 48 (.fieldAddr 2 (.t 3)), .i 49 (.load false 1 (.t 48)), .i 50 (.mov (.t 10)), .i 51 (.indexAddr 3 (.t 49) (.t 50)), .i 52 (.load true 3 (.t 51)), .i 53 (.mov (.t 9)), .i 54 (.mov (.t 2)), .i 55 (.call 36 [.t 52, .t 53, .t 54]), .i 11 (.mov (.t 55))]) (.seq (.ops [.i 56 (.mov (.t 11)), .i 57 (.bin .neq (.t 56) (.n 0))]) (.cond (.t 57) (.seq (.ops [.i 58 (.mov (.t 11)), .i 6 (.mov (.t 58))]) .ret) .skip)))) (.ops [.i 46 (.mov (.t 10)), .i 47 (.bin .add (.t 46) (.n 1)), .i 10 (.mov (.t 47))])))))) (.seq (.ops [.i 6 (.mov (.n 0))]) .ret)))))))))
theorem tr_R_lamMay : trCode Tryz.prog 59 [] (Tryz.f36.body.getD .skip) = some ir_R_lamMay := by kernel_rfl
theorem ac_R_lamMay {xs : List AV} {r : AV} (hn : xs.length ≤ 59) (h : ∀ C : Ctx, C.n = 59 → IWP Tryz.prog C [] ir_R_lamMay (FinQ [.t 6] r) (AS.start xs)) : ACalls Tryz.prog 36 xs r :=
  acalls_of Tryz.func36 rfl tr_R_lamMay rfl hn h
def ir_R_Var : IR :=
  (.seq (.ops [.i 2 (.alloc 24 [.st (.int .i64 0), .st (.int .i64 0), .full []])]) (.seq (.ops [.i 3 (.mov (.t 0)), .i 4 (.build [.st (.int .i64 0), .st (.int .i64 0), .full []] [(0, 1, .n 1), (1, 1, .t 3)]), .mk none none (.store 3 (.t 2) (.t 4)) .no]) .ret))
theorem tr_R_Var : trCode Tryz.prog 5 [] (Tryz.f57.body.getD .skip) = some ir_R_Var := by kernel_rfl
theorem ac_R_Var {xs : List AV} {r : AV} (hn : xs.length ≤ 5) (h : ∀ C : Ctx, C.n = 5 → IWP Tryz.prog C [] ir_R_Var (FinQ [.cell 2 true 3] r) (AS.start xs)) : ACalls Tryz.prog 57 xs r :=
  acalls_of Tryz.func57 rfl tr_R_Var rfl hn h
def ir_L_hugeLam : IR :=
  (.seq (.ops [.i 1 (.box 24 (.t 0)), .i 2 (.mov (.c (.one (.st (.bool false)))))]) (.seq (.ops [.i 3 (.load true 3 (.t 1)), .i 4 (.call 15 [.t 3, .n 3000]), .i 5 (.bin .gtr (.t 4) (.n 3000)), .i 2 (.mov (.t 5))]) .ret))
theorem tr_L_hugeLam : trCode Tryz.prog 6 [] (Tryz.f7.body.getD .skip) = some ir_L_hugeLam := by kernel_rfl
theorem ac_L_hugeLam {xs : List AV} {r : AV} (hn : xs.length ≤ 6) (h : ∀ C : Ctx, C.n = 6 → IWP Tryz.prog C [] ir_L_hugeLam (FinQ [.t 2] r) (AS.start xs)) : ACalls Tryz.prog 7 xs r :=
  acalls_of Tryz.func7 rfl tr_L_hugeLam rfl hn h
end Go.Proofs.YtehnjhkndbcmgaaGreatDoor

namespace Go.Proofs.YtehnjhkndbcmgaaGreatDoor
open Go Go.RowKit
set_option linter.unusedVariables false
set_option linter.unusedSimpArgs false
set_option maxHeartbeats 400000
theorem lwithin_a (t : Lm) (m : Int) (h0 : 0 ≤ m) (h1 : m ≤ 9223372036854775807) : ACalls Tryz.prog 106 [aLm t, aInt m] (aInt (lessBy t.size m)) := by
  induction h : SizeOf.sizeOf t using Nat.strongRecOn generalizing t m with
  | _ N ih =>
  subst h
  have hs := Lm.size_eq t
  refine ac_lambda_within (Nat.le_of_ble_eq_true rfl) fun C hC => ?_
  unfold ir_lambda_within
  refine IWP.learn 0 (by omega) fun hkn => ?_
  have hkn := (known_lm hkn).2.2
  repeat' (first | (with_reducible first | refine W ?_ | refine Wk (by decide) ?_) | ((with_reducible first | refine Wo (fun K hK => ?_) | refine Wq ?_ | refine Wr ?_); (try simp only [go_sem, fN, ↓gI, ↓pI, seval, eT, iR]); (repeat with_reducible refine And.intro (by first | omega | exact lens | (simp [maxLen_eq] <;> omega)) ?_); (try (refine hK _ ?_; clear hK K))))
  refine IWP.loopD [6] (fun n s => ∃ k, k ≤ t.subs.length ∧ n = t.subs.length - k ∧ s.env 1 = aInt (lessBy (1 + Lm.sizes (t.subs.take k)) m) ∧ s.env 10 = .one (.st (.list (t.subs.map encL))) ∧ s.env 11 = aInt t.subs.length ∧ s.env 12 = aInt k ∧ s.S 6 = none) t.subs.length ⟨0, Nat.zero_le _, rfl, by
    simp only [go_sem, fN, ↓gI, ↓pI, seval, eT, iR]
    rw [lessBy]
    have z0 : Lm.sizes [] = 0 := rfl
    congr 3
    split <;> omega, rfl, rfl, rfl, rfl⟩ ?_
  rintro n ⟨env, S⟩ ⟨k, hk, rfl, e1, e10, e11, e12, s6⟩
  simp only at e1 e10 e11 e12 s6
  repeat' (first | (with_reducible first | refine W ?_ | refine Wk (by decide) ?_) | ((with_reducible first | refine Wo (fun K hK => ?_) | refine Wq ?_ | refine Wr ?_); (try simp only [go_sem, fN, ↓gI, ↓pI, seval, eT, iR, e1, e10, e11, e12, s6]); (repeat with_reducible refine And.intro (by first | omega | exact lens | (simp [maxLen_eq] <;> omega)) ?_); (try (refine hK _ ?_; clear hK K))))
  with_reducible refine Wp ?_
  simp only [go_sem, fN, ↓gI, ↓pI, seval, true_implies, false_implies, implies_true, dT, dF, nL, e1, e10, e11, e12, s6]
  (try with_reducible refine iC ?_)
  refine ⟨fun hlt => ?_, fun hge => ?_⟩
  · obtain ⟨a, ha⟩ := get_lt (show k < t.subs.length by omega)
    have z1 := Lm.sizes_take ha
    have z2 := Lm.sizes_take_le t.subs (k + 1)
    have z3 := Lm.length_le t.subs
    have z4 := lessBy_le (1 + Lm.sizes (t.subs.take k)) m h0
    repeat' (first | (with_reducible first | refine W ?_ | refine Wk (by decide) ?_) | ((with_reducible first | refine Wo (fun K hK => ?_) | refine Wq ?_ | refine Wr ?_); (try simp only [go_sem, fN, ↓gI, ↓pI, seval, eT, iR, e1, e10, e11, e12, s6, ha]); (repeat with_reducible refine And.intro (by first | omega | exact lens | (simp [maxLen_eq] <;> omega)) ?_); (try (refine hK _ ?_; clear hK K))))
    with_reducible refine Wp ?_
    simp only [go_sem, fN, ↓gI, ↓pI, seval, true_implies, false_implies, implies_true, dT, dF, nL, e1]
    (try with_reducible refine iC ?_)
    refine ⟨fun hb => ?_, fun hb => ?_⟩
    · repeat' (first | (with_reducible first | refine W ?_ | refine Wk (by decide) ?_) | ((with_reducible first | refine Wo (fun K hK => ?_) | refine Wq ?_ | refine Wr ?_); (try simp only [go_sem, fN, ↓gI, ↓pI, seval, eT, iR, e1]); (repeat with_reducible refine And.intro (by first | omega | exact lens | (simp [maxLen_eq] <;> omega)) ?_); (try (refine hK _ ?_; clear hK K))))
      simp only [go_sem, fN, ↓gI, ↓pI, seval, FinQ, AS.result, resAll, resOne, tupV, e1]
      rw [lessBy_neg hb (show _ ≤ t.size by rw [hs]; omega)]
    · repeat' (first | (with_reducible first | refine W ?_ | refine Wk (by decide) ?_) | refine Cg _ (ih _ (Lm.lt_of_sub (mem_of_get ha)) a _ (by omega) (by omega) rfl) ?_ | ((with_reducible first | refine Wo (fun K hK => ?_) | refine Wq ?_ | refine Wr ?_); (try simp only [go_sem, fN, ↓gI, ↓pI, seval, eT, iR, e1, e10, e11, e12, s6, ha]); (repeat with_reducible refine And.intro (by first | omega | exact lens | (simp [maxLen_eq] <;> omega)) ?_); (try (refine hK _ ?_; clear hK K))))
      refine then_normal ⟨t.subs.length - (k + 1), by omega, k + 1, by omega, rfl, ?_⟩
      simp only [go_sem, fN, ↓gI, ↓pI, seval, AS.drop, dropS, AC.clears, AC.clear, AC.highs, AC.high, Bool.not_false, Bool.true_and, Bool.and_self, AV.purge, AV.purges, AC.purge, ABlk.purge, List.contains_cons, List.contains_nil, Nat.reduceBEq, Bool.or_self, Bool.or_false, Bool.false_or, Bool.or_true, eT, iR, e1, e10, e11, e12, s6]
      exact ⟨by rw [lessBy_step (by omega), z1]; congr 4; omega, by congr 3⟩
  · repeat' (first | (with_reducible first | refine W ?_ | refine Wk (by decide) ?_) | ((with_reducible first | refine Wo (fun K hK => ?_) | refine Wq ?_ | refine Wr ?_); (try simp only [go_sem, fN, ↓gI, ↓pI, seval, eT, iR, e1]); (repeat with_reducible refine And.intro (by first | omega | exact lens | (simp [maxLen_eq] <;> omega)) ?_); (try (refine hK _ ?_; clear hK K))))
    simp only [go_sem, fN, ↓gI, ↓pI, seval, FinQ, AS.result, resAll, resOne, tupV, e1]
    rw [List.take_of_length_le (by omega), hs]
theorem lsizeR_a (t : Lm) (m : Int) (h0 : 0 ≤ m) (h1 : m ≤ 9223372036854775806) : ACalls Tryz.prog 15 [aLm t, aInt m] (aInt (capTo t.size m)) := by
  induction h : SizeOf.sizeOf t using Nat.strongRecOn generalizing t m with
  | _ N ih =>
  subst h
  have hs := Lm.size_eq t
  refine ac_R_LamSize (Nat.le_of_ble_eq_true rfl) fun C hC => ?_
  unfold ir_R_LamSize
  refine IWP.learn 0 (by omega) fun hkn => ?_
  have hkn := (known_lm hkn).2.2
  repeat' (first | (with_reducible first | refine W ?_ | refine Wk (by decide) ?_) | ((with_reducible first | refine Wo (fun K hK => ?_) | refine Wq ?_ | refine Wr ?_); (try simp only [go_sem, fN, ↓gI, ↓pI, seval, eT, iR]); (repeat with_reducible refine And.intro (by first | omega | exact lens | (simp [maxLen_eq] <;> omega)) ?_); (try (refine hK _ ?_; clear hK K))))
  refine IWP.loop (fun n s => ∃ k, k ≤ t.subs.length ∧ n = t.subs.length - k ∧ s.env 5 = aInt (capTo (1 + Lm.sizes (t.subs.take k)) m) ∧ s.env 1 = aInt m ∧ s.env 2 = .one (.ptr 2 1 0 0) ∧ s.env 6 = aInt k ∧ s.S 2 = some (.box 24 [.st (.int .i64 t.kind), .st (.int .i64 t.idx), .st (.list (t.subs.map encL))])) t.subs.length ⟨0, Nat.zero_le _, rfl, by
    simp only [go_sem, fN, ↓gI, ↓pI, seval, eT, iR]
    rw [capTo]
    have z0 : Lm.sizes [] = 0 := rfl
    congr 3
    split <;> omega, rfl, rfl, rfl, rfl⟩ ?_
  rintro n ⟨env, S⟩ ⟨k, hk, rfl, e5, e1, e2, e6, s2⟩
  simp only at e5 e1 e2 e6 s2
  have z4 := capTo_le (1 + Lm.sizes (t.subs.take k)) m h0
  by_cases hlt : (k : Int) < t.subs.length
  · obtain ⟨a, ha⟩ := get_lt (show k < t.subs.length by omega)
    have z1 := Lm.sizes_take ha
    have z2 := Lm.sizes_take_le t.subs (k + 1)
    by_cases hb : m < capTo (1 + Lm.sizes (t.subs.take k)) m
    · have hb' : ¬ capTo (1 + Lm.sizes (t.subs.take k)) m ≤ m := by omega
      repeat' (first | (with_reducible first | refine W ?_ | refine Wk (by decide) ?_) | ((with_reducible first | refine Wo (fun K hK => ?_) | refine Wq ?_ | refine Wr ?_); (try simp only [go_sem, fN, ↓gI, ↓pI, seval, eT, iR, e5, e1, e2, e6, s2, hlt, hb']); (repeat with_reducible refine And.intro (by first | omega | exact lens | (simp [maxLen_eq] <;> omega)) ?_); (try (refine hK _ ?_; clear hK K))))
      with_reducible refine Wp ?_
      simp only [go_sem, fN, ↓gI, ↓pI, seval, true_implies, false_implies, implies_true, dT, dF, nL, hb']
      (try with_reducible refine iC ?_)
      repeat' (first | (with_reducible first | refine W ?_ | refine Wk (by decide) ?_) | ((with_reducible first | refine Wo (fun K hK => ?_) | refine Wq ?_ | refine Wr ?_); (try simp only [go_sem, fN, ↓gI, ↓pI, seval, eT, iR, e5, e1, e2, e6, s2]); (repeat with_reducible refine And.intro (by first | omega | exact lens | (simp [maxLen_eq] <;> omega)) ?_); (try (refine hK _ ?_; clear hK K))))
      with_reducible refine Wp ?_
      simp only [go_sem, fN, ↓gI, ↓pI, seval, true_implies, false_implies, implies_true, dT, dF, nL, hb]
      (try with_reducible refine iC ?_)
      repeat' (first | (with_reducible first | refine W ?_ | refine Wk (by decide) ?_) | ((with_reducible first | refine Wo (fun K hK => ?_) | refine Wq ?_ | refine Wr ?_); (try simp only [go_sem, fN, ↓gI, ↓pI, seval, eT, iR, e1]); (repeat with_reducible refine And.intro (by first | omega | exact lens | (simp [maxLen_eq] <;> omega)) ?_); (try (refine hK _ ?_; clear hK K))))
      simp only [go_sem, fN, ↓gI, ↓pI, seval, FinQ, AS.result, resAll, resOne, tupV]
      rw [capTo_over hb (show _ ≤ t.size by rw [hs]; omega)]
    · have hb' : capTo (1 + Lm.sizes (t.subs.take k)) m ≤ m := by omega
      obtain ⟨b1, b2⟩ := capTo_in hb
      repeat' (first | (with_reducible first | refine W ?_ | refine Wk (by decide) ?_) | ((with_reducible first | refine Wo (fun K hK => ?_) | refine Wq ?_ | refine Wr ?_); (try simp only [go_sem, fN, ↓gI, ↓pI, seval, eT, iR, e5, e1, e2, e6, s2, hlt, hb']); (repeat with_reducible refine And.intro (by first | omega | exact lens | (simp [maxLen_eq] <;> omega)) ?_); (try (refine hK _ ?_; clear hK K))))
      with_reducible refine Wp ?_
      simp only [go_sem, fN, ↓gI, ↓pI, seval, true_implies, false_implies, implies_true, dT, dF, nL, hb']
      (try with_reducible refine iC ?_)
      repeat' (first | (with_reducible first | refine W ?_ | refine Wk (by decide) ?_) | ((with_reducible first | refine Wo (fun K hK => ?_) | refine Wq ?_ | refine Wr ?_); (try simp only [go_sem, fN, ↓gI, ↓pI, seval, eT, iR, e5, e1, e2, e6, s2, ha]); (repeat with_reducible refine And.intro (by first | omega | exact lens | (simp [maxLen_eq] <;> omega)) ?_); (try (refine hK _ ?_; clear hK K))))
      refine ⟨_, ih _ (Lm.lt_of_sub (mem_of_get ha)) a (m - capTo (1 + Lm.sizes (t.subs.take k)) m) (by omega) (by omega) rfl, ?_⟩
      have z5 := capTo_le a.size (m - capTo (1 + Lm.sizes (t.subs.take k)) m) (by omega)
      repeat' (first | (with_reducible first | refine W ?_ | refine Wk (by decide) ?_) | ((with_reducible first | refine Wo (fun K hK => ?_) | refine Wq ?_ | refine Wr ?_); (try simp only [go_sem, fN, ↓gI, ↓pI, seval, eT, iR, e5, e1, e2, e6, s2]); (repeat with_reducible refine And.intro (by first | omega | exact lens | (simp [maxLen_eq] <;> omega)) ?_); (try (refine hK _ ?_; clear hK K))))
      refine then_normal ⟨t.subs.length - (k + 1), by omega, k + 1, by omega, rfl, ?_⟩
      simp only [go_sem, fN, ↓gI, ↓pI, seval, eT, iR, e5, e1, e2, e6, s2]
      exact ⟨by rw [b1, capTo_step b2, z1]; congr 4; omega, by congr 3⟩
  · repeat' (first | (with_reducible first | refine W ?_ | refine Wk (by decide) ?_) | ((with_reducible first | refine Wo (fun K hK => ?_) | refine Wq ?_ | refine Wr ?_); (try simp only [go_sem, fN, ↓gI, ↓pI, seval, eT, iR, e5, e1, e2, e6, s2, hlt]); (repeat with_reducible refine And.intro (by first | omega | exact lens | (simp [maxLen_eq] <;> omega)) ?_); (try (refine hK _ ?_; clear hK K))))
    with_reducible refine Wp ?_
    simp only [go_sem, fN, ↓gI, ↓pI, seval, true_implies, false_implies, implies_true, dT, dF, nL]
    (try with_reducible refine iC ?_)
    have hfull : 1 + Lm.sizes (t.subs.take k) = t.size := by rw [List.take_of_length_le (by omega), hs]
    rw [hfull] at e5 z4
    repeat' (first | (with_reducible first | refine W ?_ | refine Wk (by decide) ?_) | ((with_reducible first | refine Wo (fun K hK => ?_) | refine Wq ?_ | refine Wr ?_); (try simp only [go_sem, fN, ↓gI, ↓pI, seval, eT, iR, e5, e1]); (repeat with_reducible refine And.intro (by first | omega | exact lens | (simp [maxLen_eq] <;> omega)) ?_); (try (refine hK _ ?_; clear hK K))))
    by_cases hb : m < capTo t.size m
    · with_reducible refine Wp ?_
      simp only [go_sem, fN, ↓gI, ↓pI, seval, true_implies, false_implies, implies_true, dT, dF, nL, hb]
      (try with_reducible refine iC ?_)
      repeat' (first | (with_reducible first | refine W ?_ | refine Wk (by decide) ?_) | ((with_reducible first | refine Wo (fun K hK => ?_) | refine Wq ?_ | refine Wr ?_); (try simp only [go_sem, fN, ↓gI, ↓pI, seval, eT, iR, e1]); (repeat with_reducible refine And.intro (by first | omega | exact lens | (simp [maxLen_eq] <;> omega)) ?_); (try (refine hK _ ?_; clear hK K))))
      simp only [go_sem, fN, ↓gI, ↓pI, seval, FinQ, AS.result, resAll, resOne, tupV]
      rw [capTo_over hb (Nat.le_refl _)]
    · with_reducible refine Wp ?_
      simp only [go_sem, fN, ↓gI, ↓pI, seval, true_implies, false_implies, implies_true, dT, dF, nL, hb]
      (try with_reducible refine iC ?_)
      repeat' (first | (with_reducible first | refine W ?_ | refine Wk (by decide) ?_) | ((with_reducible first | refine Wo (fun K hK => ?_) | refine Wq ?_ | refine Wr ?_); (try simp only [go_sem, fN, ↓gI, ↓pI, seval, eT, iR, e5]); (repeat with_reducible refine And.intro (by first | omega | exact lens | (simp [maxLen_eq] <;> omega)) ?_); (try (refine hK _ ?_; clear hK K))))
      simp only [go_sem, fN, ↓gI, ↓pI, seval, FinQ, AS.result, resAll, resOne, tupV, e5]
theorem kinds_of {k : Int} (h : 1 ≤ k ∧ k ≤ 5) : k = 1 ∨ k = 2 ∨ k = 3 ∨ k = 4 ∨ k = 5 := by omega
set_option maxHeartbeats 1000000 in
theorem lcheck_a (t : Lm) (u m : Int) (hu : 0 ≤ u) (hz : u + t.size ≤ 1000000000) : ACalls Tryz.prog 107 [aLm t, aInt u, aInt m] (aInt (t.chk m u)) := by
  induction h : SizeOf.sizeOf t using Nat.strongRecOn generalizing t u with
  | _ N ih =>
  subst h
  have hs := Lm.size_eq t
  have hlen := Lm.length_le t.subs
  refine ac_lambda_check (Nat.le_of_ble_eq_true rfl) fun C hC => ?_
  unfold ir_lambda_check
  by_cases hk : 1 ≤ t.kind ∧ t.kind ≤ 5
  case neg =>
    rw [Lm.chk_eq, if_neg (fun h => hk ⟨h.1, h.2.1⟩)]
    by_cases h1 : t.kind < 1
    · repeat' (first | (with_reducible first | refine W ?_ | refine Wk (by decide) ?_) | ((with_reducible first | refine Wo (fun K hK => ?_) | refine Wp ?_ | refine Wq ?_ | refine Wr ?_); (try simp only [go_sem, fN, ↓gI, ↓pI, seval, eT, iR, h1, dT, dF, nL]); (repeat with_reducible refine And.intro (by first | omega | exact lens | (simp [maxLen_eq] <;> omega)) ?_); (try (refine hK _ ?_; clear hK K)); (try with_reducible refine iC ?_)))
      simp only [go_sem, fN, ↓gI, ↓pI, seval, FinQ, AS.result, resAll, resOne, tupV]
    · have h5 : 5 < t.kind := by omega
      repeat' (first | (with_reducible first | refine W ?_ | refine Wk (by decide) ?_) | ((with_reducible first | refine Wo (fun K hK => ?_) | refine Wp ?_ | refine Wq ?_ | refine Wr ?_); (try simp only [go_sem, fN, ↓gI, ↓pI, seval, eT, iR, h1, h5, dT, dF, nL]); (repeat with_reducible refine And.intro (by first | omega | exact lens | (simp [maxLen_eq] <;> omega)) ?_); (try (refine hK _ ?_; clear hK K)); (try with_reducible refine iC ?_)))
      simp only [go_sem, fN, ↓gI, ↓pI, seval, FinQ, AS.result, resAll, resOne, tupV]
  case pos =>
  have hk5 := kinds_of hk
  have q1 : ¬ t.kind < 1 := by omega
  have q5 : ¬ 5 < t.kind := by omega
  by_cases hl : (t.subs.length : Int) = nSubs t.kind
  case neg =>
    rw [Lm.chk_eq, if_neg (fun h => hl h.2.2)]
    rcases hk5 with hk5 | hk5 | hk5 | hk5 | hk5
    all_goals
      simp only [hk5, nSubs, Int.reduceEq, ↓reduceIte] at hl
      repeat' (first | (with_reducible first | refine W ?_ | refine Wk (by decide) ?_) | ((with_reducible first | refine Wo (fun K hK => ?_) | refine Wp ?_ | refine Wq ?_ | refine Wr ?_); (try simp only [go_sem, fN, ↓gI, ↓pI, seval, eT, iR, hk5, hl, dT, dF, nL]); (repeat with_reducible refine And.intro (by first | omega | exact lens | (simp [maxLen_eq] <;> omega)) ?_); (try (refine hK _ ?_; clear hK K)); (try with_reducible refine iC ?_)))
      simp only [go_sem, fN, ↓gI, ↓pI, seval, FinQ, AS.result, resAll, resOne, tupV]
  case pos =>
  by_cases h0 : t.idx < 0
  case pos =>
    rw [Lm.chk_eq, if_pos ⟨hk.1, hk.2, hl⟩, if_neg (fun h => by omega)]
    rcases hk5 with hk5 | hk5 | hk5 | hk5 | hk5
    all_goals
      simp only [hk5, nSubs, Int.reduceEq, ↓reduceIte] at hl
      repeat' (first | (with_reducible first | refine W ?_ | refine Wk (by decide) ?_) | ((with_reducible first | refine Wo (fun K hK => ?_) | refine Wp ?_ | refine Wq ?_ | refine Wr ?_); (try simp only [go_sem, fN, ↓gI, ↓pI, seval, eT, iR, hk5, hl, h0, dT, dF, nL]); (repeat with_reducible refine And.intro (by first | omega | exact lens | (simp [maxLen_eq] <;> omega)) ?_); (try (refine hK _ ?_; clear hK K)); (try with_reducible refine iC ?_)))
      simp only [go_sem, fN, ↓gI, ↓pI, seval, FinQ, AS.result, resAll, resOne, tupV]
  case neg =>
  by_cases hm : mostIdx t.kind u m ≤ t.idx
  case pos =>
    rw [Lm.chk_eq, if_pos ⟨hk.1, hk.2, hl⟩, if_neg (fun h => by omega)]
    rcases hk5 with hk5 | hk5 | hk5 | hk5 | hk5
    all_goals
      simp only [hk5, nSubs, mostIdx, Int.reduceEq, ↓reduceIte] at hl hm
      repeat' (first | (with_reducible first | refine W ?_ | refine Wk (by decide) ?_) | ((with_reducible first | refine Wo (fun K hK => ?_) | refine Wp ?_ | refine Wq ?_ | refine Wr ?_); (try simp only [go_sem, fN, ↓gI, ↓pI, seval, eT, iR, hk5, hl, h0, hm, dT, dF, nL]); (repeat with_reducible refine And.intro (by first | omega | exact lens | (simp [maxLen_eq] <;> omega)) ?_); (try (refine hK _ ?_; clear hK K)); (try with_reducible refine iC ?_)))
      simp only [go_sem, fN, ↓gI, ↓pI, seval, FinQ, AS.result, resAll, resOne, tupV]
  case neg =>
  rw [Lm.chk_eq, if_pos ⟨hk.1, hk.2, hl⟩, if_pos (by omega)]
  rcases hk5 with hk5 | hk5 | hk5 | hk5 | hk5
  all_goals
    simp only [hk5, nSubs, mostIdx, Int.reduceEq, ↓reduceIte] at hl hm
    repeat' (first | (with_reducible first | refine W ?_ | refine Wk (by decide) ?_) | ((with_reducible first | refine Wo (fun K hK => ?_) | refine Wp ?_ | refine Wq ?_ | refine Wr ?_); (try simp only [go_sem, fN, ↓gI, ↓pI, seval, eT, iR, hk5, hl, h0, hm, dT, dF, nL]); (repeat with_reducible refine And.intro (by first | omega | exact lens | (simp [maxLen_eq] <;> omega)) ?_); (try (refine hK _ ?_; clear hK K)); (try with_reducible refine iC ?_)))
    refine IWP.loopD [9] (fun n s => ∃ k, k ≤ t.subs.length ∧ n = t.subs.length - k ∧ Lm.chks m (t.subs.take k) (under t.kind u) = 0 ∧ s.env 1 = aInt (under t.kind u) ∧ s.env 2 = aInt m ∧ s.env 54 = .one (.st (.list (t.subs.map encL))) ∧ s.env 55 = aInt t.subs.length ∧ s.env 56 = aInt k ∧ s.S 9 = none) t.subs.length ⟨0, Nat.zero_le _, rfl, rfl, by simp only [hk5, under]; rfl, rfl, rfl, by simp only [go_sem, fN, ↓gI, ↓pI, seval, eT, iR, hl], rfl, rfl⟩ ?_
    rintro n ⟨env, S⟩ ⟨k, hk', rfl, hc, e1, e2, e54, e55, e56, s9⟩
    simp only at e1 e2 e54 e55 e56 s9
    by_cases hlt : (k : Int) < t.subs.length
    · obtain ⟨a, ha⟩ := get_lt (show k < t.subs.length by omega)
      have z3 := Lm.size_mem (mem_of_get ha)
      have hu2 : under t.kind u ≤ u + 1 ∧ 0 ≤ under t.kind u := by unfold under; split <;> omega
      repeat' (first | (with_reducible first | refine W ?_ | refine Wk (by decide) ?_) | ((with_reducible first | refine Wo (fun K hK => ?_) | refine Wp ?_ | refine Wq ?_ | refine Wr ?_); (try simp only [go_sem, fN, ↓gI, ↓pI, seval, eT, iR, e1, e2, e54, e55, e56, s9, ha, hlt, dT, dF, nL]); (repeat with_reducible refine And.intro (by first | omega | exact lens | (simp [maxLen_eq] <;> omega)) ?_); (try (refine hK _ ?_; clear hK K)); (try with_reducible refine iC ?_)))
      refine ⟨_, ih _ (Lm.lt_of_sub (mem_of_get ha)) a (under t.kind u) hu2.2 (by omega) rfl, ?_⟩
      by_cases hr : a.chk m (under t.kind u) = 0
      · repeat' (first | (with_reducible first | refine W ?_ | refine Wk (by decide) ?_) | ((with_reducible first | refine Wo (fun K hK => ?_) | refine Wp ?_ | refine Wq ?_ | refine Wr ?_); (try simp only [go_sem, fN, ↓gI, ↓pI, seval, eT, iR, e1, e2, e54, e55, e56, s9, hr, dT, dF, nL]); (repeat with_reducible refine And.intro (by first | omega | exact lens | (simp [maxLen_eq] <;> omega)) ?_); (try (refine hK _ ?_; clear hK K)); (try with_reducible refine iC ?_)))
        refine then_normal ⟨t.subs.length - (k + 1), by omega, k + 1, by omega, rfl, ?_⟩
        simp only [go_sem, fN, ↓gI, ↓pI, seval, AS.drop, dropS, AC.clears, AC.clear, AC.highs, AC.high, Bool.not_false, Bool.true_and, Bool.and_self, AV.purge, AV.purges, AC.purge, ABlk.purge, List.contains_cons, List.contains_nil, Nat.reduceBEq, Bool.or_self, Bool.or_false, Bool.false_or, Bool.or_true, eT, iR, e1, e2, e54, e55, e56, s9]
        exact ⟨by rw [Lm.chks_take ha hc, hr], by congr 3⟩
      · repeat' (first | (with_reducible first | refine W ?_ | refine Wk (by decide) ?_) | ((with_reducible first | refine Wo (fun K hK => ?_) | refine Wp ?_ | refine Wq ?_ | refine Wr ?_); (try simp only [go_sem, fN, ↓gI, ↓pI, seval, eT, iR, e1, e2, e54, e55, e56, s9, hr, dT, dF, nL]); (repeat with_reducible refine And.intro (by first | omega | exact lens | (simp [maxLen_eq] <;> omega)) ?_); (try (refine hK _ ?_; clear hK K)); (try with_reducible refine iC ?_)))
        simp only [go_sem, fN, ↓gI, ↓pI, seval, FinQ, AS.result, resAll, resOne, tupV]
        simp only [hk5] at hc hr ⊢
        rw [Lm.chks_bad (k := k + 1) (by rw [Lm.chks_take ha hc]; exact hr), Lm.chks_take ha hc]
    · repeat' (first | (with_reducible first | refine W ?_ | refine Wk (by decide) ?_) | ((with_reducible first | refine Wo (fun K hK => ?_) | refine Wp ?_ | refine Wq ?_ | refine Wr ?_); (try simp only [go_sem, fN, ↓gI, ↓pI, seval, eT, iR, e1, e2, e54, e55, e56, s9, hlt, dT, dF, nL]); (repeat with_reducible refine And.intro (by first | omega | exact lens | (simp [maxLen_eq] <;> omega)) ?_); (try (refine hK _ ?_; clear hK K)); (try with_reducible refine iC ?_)))
      simp only [go_sem, fN, ↓gI, ↓pI, seval, FinQ, AS.result, resAll, resOne, tupV]
      rw [List.take_of_length_le (by omega)] at hc
      simp only [hk5] at hc ⊢
      rw [hc]
theorem lessBy_neg_iff {s : Nat} {m : Int} (h : 0 ≤ m) : lessBy s m < 0 ↔ m < s := by
  unfold lessBy
  split <;> omega
theorem lcheckWith_a (t : Lm) (u m : Int) : ACalls Tryz.prog 75 [aLm t, aInt u, aInt m] (aInt (t.may m u)) := by
  refine ac_lambda_CheckWith (Nat.le_of_ble_eq_true rfl) fun C hC => ?_
  unfold ir_lambda_CheckWith
  unfold Lm.may
  by_cases h0 : u < 0
  · rw [if_pos (Or.inl h0)]
    repeat' (first | (with_reducible first | refine W ?_ | refine Wk (by decide) ?_) | ((with_reducible first | refine Wo (fun K hK => ?_) | refine Wp ?_ | refine Wq ?_ | refine Wr ?_); (try simp only [go_sem, fN, ↓gI, ↓pI, seval, eT, iR, h0, dT, dF, nL]); (repeat with_reducible refine And.intro (by first | omega | exact lens | (simp [maxLen_eq] <;> omega)) ?_); (try (refine hK _ ?_; clear hK K)); (try with_reducible refine iC ?_)))
    simp only [go_sem, fN, ↓gI, ↓pI, seval, FinQ, AS.result, resAll, resOne, tupV]
  by_cases h1 : 40 < u
  · rw [if_pos (Or.inr h1)]
    repeat' (first | (with_reducible first | refine W ?_ | refine Wk (by decide) ?_) | ((with_reducible first | refine Wo (fun K hK => ?_) | refine Wp ?_ | refine Wq ?_ | refine Wr ?_); (try simp only [go_sem, fN, ↓gI, ↓pI, seval, eT, iR, h0, h1, dT, dF, nL]); (repeat with_reducible refine And.intro (by first | omega | exact lens | (simp [maxLen_eq] <;> omega)) ?_); (try (refine hK _ ?_; clear hK K)); (try with_reducible refine iC ?_)))
    simp only [go_sem, fN, ↓gI, ↓pI, seval, FinQ, AS.result, resAll, resOne, tupV]
  rw [if_neg (by omega)]
  have hw := @lessBy_neg_iff t.size 200 (by decide)
  by_cases hz : 200 < t.size
  · have hz' := hw.2 (by omega)
    rw [if_pos hz]
    repeat' (first | (with_reducible first | refine W ?_ | refine Wk (by decide) ?_) | refine Cg _ (lwithin_a t 200 (by decide) (by decide)) ?_ | ((with_reducible first | refine Wo (fun K hK => ?_) | refine Wp ?_ | refine Wq ?_ | refine Wr ?_); (try simp only [go_sem, fN, ↓gI, ↓pI, seval, eT, iR, h0, h1, hz', dT, dF, nL]); (repeat with_reducible refine And.intro (by first | omega | exact lens | (simp [maxLen_eq] <;> omega)) ?_); (try (refine hK _ ?_; clear hK K)); (try with_reducible refine iC ?_)))
    simp only [go_sem, fN, ↓gI, ↓pI, seval, FinQ, AS.result, resAll, resOne, tupV]
  · have hz' : ¬ lessBy t.size 200 < 0 := fun h => hz (by have := hw.1 h; omega)
    rw [if_neg hz]
    repeat' (first | (with_reducible first | refine W ?_ | refine Wk (by decide) ?_) | refine Cg _ (lwithin_a t 200 (by decide) (by decide)) ?_ | refine Cg _ (lcheck_a t u m (by omega) (by omega)) ?_ | ((with_reducible first | refine Wo (fun K hK => ?_) | refine Wp ?_ | refine Wq ?_ | refine Wr ?_); (try simp only [go_sem, fN, ↓gI, ↓pI, seval, eT, iR, h0, h1, hz', dT, dF, nL]); (repeat with_reducible refine And.intro (by first | omega | exact lens | (simp [maxLen_eq] <;> omega)) ?_); (try (refine hK _ ?_; clear hK K)); (try with_reducible refine iC ?_)))
    simp only [go_sem, fN, ↓gI, ↓pI, seval, FinQ, AS.result, resAll, resOne, tupV]
theorem lCheck_a (t : Lm) (u : Int) : ACalls Tryz.prog 42 [aLm t, aInt u] (aInt (t.may 0 u)) := by
  refine ac_lambda_Check (Nat.le_of_ble_eq_true rfl) fun C hC => ?_
  unfold ir_lambda_Check
  repeat' (first | (with_reducible first | refine W ?_ | refine Wk (by decide) ?_) | refine Cg _ (lcheckWith_a t u 0) ?_ | ((with_reducible first | refine Wo (fun K hK => ?_) | refine Wp ?_ | refine Wq ?_ | refine Wr ?_); (try simp only [go_sem, fN, ↓gI, ↓pI, seval, eT, iR, dT, dF, nL]); (repeat with_reducible refine And.intro (by first | omega | exact lens | (simp [maxLen_eq] <;> omega)) ?_); (try (refine hK _ ?_; clear hK K)); (try with_reducible refine iC ?_)))
  simp only [go_sem, fN, ↓gI, ↓pI, seval, FinQ, AS.result, resAll, resOne, tupV]
end Go.Proofs.YtehnjhkndbcmgaaGreatDoor
