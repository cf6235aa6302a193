/-
  Part 11 of the texts: AbsU; PTerm; PSubst; PSort; PThen; PCompose. Conditions: none.
-/
import Derived.Test.YtdmgelbbjppgkaaDoorPart10
namespace Go.Proofs.YtdmgelbbjppgkaaDoor
open Go Go.RowKit
set_option linter.unusedVariables false

def Kd.isCall : Kd → Bool
  | .call _ _ => true
  | .callS _ _ => true
  | .callV _ _ => true
  | .callN _ _ => true
  | .callR _ _ => true
  | .callW _ _ => true
  | .buildFlat _ => false
  | .cutP _ _ _ => false
  | .indexP _ _ _ => false
  | .appP _ _ _ _ _ => false
  | .restP _ _ _ => false
  | .clearP _ _ _ _ => false
  | .mov _ => false
  | .pick _ _ _ => false
  | .alloc _ _ => false
  | .box _ _ => false
  | .build _ _ => false
  | .buildSlice _ _ _ _ => false
  | .load _ _ _ => false
  | .store _ _ _ => false
  | .fieldAddr _ _ => false
  | .field _ _ _ _ => false
  | .indexAddr _ _ _ => false
  | .indexArr _ _ _ _ => false
  | .indexStr _ _ => false
  | .bin _ _ _ => false
  | .eqB _ _ _ => false
  | .eqN _ _ => false
  | .eqE _ _ => false
  | .never => false
  | .strOf _ => false
  | .un _ _ => false
  | .sliceS _ _ _ => false
  | .sliceL _ _ _ _ => false
  | .extract _ _ => false
  | .len _ _ => false
  | .append _ _ _ _ _ _ => false
  | .conv _ _ => false
  | .nilCheck _ => false
  | .mm _ _ _ => false
  | .makeSlice _ _ _ _ _ _ => false
  | .makeFunc _ _ => false
  | .makeMap _ => false
  | .lookup _ _ _ _ _ => false
  | .mapSet _ _ _ _ => false
  | .mapEntry _ _ _ _ => false
  | .entrySet _ _ _ => false
  | .rangeM _ => false
  | .next _ => false
  | .entry _ => false
  | .lenM _ => false
/-- A call stands ahead; then the operations l. -/
inductive CallG (P : Program) (f : FuncId) (vs : List AV) (d : Option Nat) (l : List Ins) (s : AS) (K : AS → Prop) : Prop
  | mk (r : AV) (h1 : ACalls P f vs r) (h2 : Run P l (s.put d r) K)
inductive CallSG (P : Program) (f : FuncId) (vs : List AV) (S : AStore) (ks : List Nat) (d : Option Nat) (l : List Ins) (env : Nat → AV) (K : AS → Prop) : Prop
  | mk (r : AV) (S' : AStore) (h1 : ACallsS P f vs (upS S) r S') (h2 : (∀ k ∈ ks, dnS S' k = S k) ∧ Run P l ((⟨env, dnS S'⟩ : AS).put d (r.ren dn1)) K)
inductive CallNG (P : Program) (f : FuncId) (vs : List AV) (ks : List Nat) (d : Option Nat) (l : List Ins) (s : AS) (K : AS → Prop) : Prop
  | mk (e : TypeId) (w : Nat) (ys : List (List SV)) (h1 : ACallsN P f vs e w ys) (h2 : s.S (d.getD 0) = none ∧ (∀ k ∈ ks, (s.set (d.getD 0) (.arow e w ys)).S k = s.S k) ∧ Run P l ((s.set (d.getD 0) (.arow e w ys)).put d (.one (.row (d.getD 0) ys.length))) K)
inductive CallRG (P : Program) (f : FuncId) (vs : List AV) (d : Option Nat) (l : List Ins) (s : AS) (K : AS → Prop) : Prop
  | mk (r : AV) (rows : List (Nat × ABlk)) (h0 : ∀ q ∈ rows, s.S q.1 = some q.2) (h1 : ∀ T : AStore, (∀ q ∈ rows, T q.1 = some q.2) → ACallsS P f vs (upS T) r (upS T)) (h2 : Run P l (s.put d (r.ren dn1)) K)
inductive CallWG (P : Program) (f : FuncId) (vs : List AV) (ks : List Nat) (d : Option Nat) (l : List Ins) (s : AS) (K : AS → Prop) : Prop
  | mk (r : AV) (rows : List (Nat × ABlk × ABlk)) (h0 : holdS s.S rows) (h1 : ∀ T : AStore, holdS T rows → ACallsS P f vs (upS T) r (upS (turnS T rows))) (h2 : (∀ k ∈ ks, turnS s.S rows k = s.S k) ∧ Run P l ((⟨s.env, turnS s.S rows⟩ : AS).put d (r.ren dn1)) K)
theorem hold_one {S : AStore} {i : Nat} {b c : ABlk} (h : S i = some b) : holdS S [(i, b, c)] := fun q hq => by rw [List.mem_singleton.1 hq]; exact h
theorem hold_at {S : AStore} {i : Nat} {b c : ABlk} (h : holdS S [(i, b, c)]) : S i = some b := h _ (List.mem_singleton.2 rfl)
theorem hold_two {S : AStore} {i j : Nat} {b c d e : ABlk} (h : S i = some b) (h' : S j = some d) : holdS S [(i, b, c), (j, d, e)] := fun q hq => by
  rcases List.mem_cons.1 hq with rfl | hq
  · exact h
  · rw [List.mem_singleton.1 hq]; exact h'
theorem hold_at1 {S : AStore} {i j : Nat} {b c d e : ABlk} (h : holdS S [(i, b, c), (j, d, e)]) : S i = some b := h _ List.mem_cons_self
theorem hold_at2 {S : AStore} {i j : Nat} {b c d e : ABlk} (h : holdS S [(i, b, c), (j, d, e)]) : S j = some d := h _ (List.mem_cons_of_mem _ (List.mem_singleton.2 rfl))
theorem rows_one {S : AStore} {i : Nat} {b : ABlk} (h : S i = some b) : ∀ q ∈ [(i, b)], S q.1 = some q.2 := fun q hq => by rw [List.mem_singleton.1 hq]; exact h
theorem rows_two {S : AStore} {i j : Nat} {b c : ABlk} (h : S i = some b) (h' : S j = some c) : ∀ q ∈ [(i, b), (j, c)], S q.1 = some q.2 := fun q hq => by
  rcases List.mem_cons.1 hq with rfl | hq
  · exact h
  · rw [List.mem_singleton.1 hq]; exact h'
def Kd.goC (P : Program) (d : Option Nat) (s : AS) (t : Tag) (l : List Ins) (K : AS → Prop) : Kd → Prop
  | .call f xs => match t with
    | .no => match outVs s.S (s.evs xs) with
      | some vs => CallG P f vs d l s K
      | none => False
    | _ => False
  | .callR f xs => match t with
    | .no => CallRG P f (AV.rens up1 (s.evs xs)) d l s K
    | _ => False
  | .callW f xs => match t with
    | .no => CallWG P f (AV.rens up1 (s.evs xs)) [] d l s K
    | .keeps ks => CallWG P f (AV.rens up1 (s.evs xs)) ks d l s K
    | .onb _ => False
  | .callN f xs => match t with
    | .no => match outVs s.S (s.evs xs) with
      | some vs => CallNG P f vs [] d l s K
      | none => False
    | .keeps ks => match outVs s.S (s.evs xs) with
      | some vs => CallNG P f vs ks d l s K
      | none => False
    | .onb _ => False
  | .callS f xs => match t with
    | .no => CallSG P f (AV.rens up1 (s.evs xs)) s.S [] d l s.env K
    | .keeps ks => CallSG P f (AV.rens up1 (s.evs xs)) s.S ks d l s.env K
    | .onb _ => False
  | .callV f xs => match s.ev f with
    | .one (.fn g caps) => plainF P g = true ∧ match t with
      | .no => CallSG P g (AV.rens up1 (s.evs xs ++ caps.map .one)) s.S [] d l s.env K
      | .keeps ks => CallSG P g (AV.rens up1 (s.evs xs ++ caps.map .one)) s.S ks d l s.env K
      | .onb _ => False
    | _ => False
  | _ => False
/-- Run, stopped at calls. -/
def Run2 (P : Program) : List Ins → AS → (AS → Prop) → Prop
  | [], s, K => K s
  | i :: l, s, K => match i.kd.isCall with
    | false => match i.guard with
      | none => i.kd.goT P (i.dst.getD 0) s i.tag fun v s' => Run2 P l (s'.put i.dst v) K
      | some (g, want) => match s.env g with
        | .one (.st (.bool b)) => (b = want → i.kd.goT P (i.dst.getD 0) s i.tag fun v s' => Run2 P l (s'.put i.dst v) K) ∧ (¬ b = want → Run2 P l (s.put i.dst (.tup [])) K)
        | .tup [] => Run2 P l (s.put i.dst (.tup [])) K
        | _ => False
    | true => match i.guard with
      | none => i.kd.goC P i.dst s i.tag l K
      | some (g, want) => match s.env g with
        | .one (.st (.bool b)) => (b = want → i.kd.goC P i.dst s i.tag l K) ∧ (¬ b = want → Run2 P l (s.put i.dst (.tup [])) K)
        | .tup [] => Run2 P l (s.put i.dst (.tup [])) K
        | _ => False
section
variable {P : Program}
theorem goC_run {kd : Kd} {d : Option Nat} {s : AS} {t : Tag} {l : List Ins} {K : AS → Prop} (h : kd.goC P d s t l K) : kd.goT P (d.getD 0) s t fun v s' => Run P l (s'.put d v) K := by
  cases kd <;> simp only [Kd.goC] at h
  case call f xs =>
    cases t <;> simp only at h
    split at h
    · rename_i vs e
      obtain ⟨r, h1, h2⟩ := h
      simp only [Kd.goT, Kd.go, e]
      exact ⟨r, h1, trivial, h2⟩
    · exact h.elim
  case callN f xs =>
    cases t <;> simp only at h
    · split at h
      · rename_i vs e
        obtain ⟨ty, w, ys, h1, h2, _, h3⟩ := h
        simp only [Kd.goT, Kd.go, e]
        exact ⟨ty, w, ys, h1, h2, trivial, h3⟩
      · exact h.elim
    · split at h
      · rename_i vs e
        obtain ⟨ty, w, ys, h1, h2, h4, h3⟩ := h
        simp only [Kd.goT, Kd.go, e]
        exact ⟨ty, w, ys, h1, h2, h4, h3⟩
      · exact h.elim
  case callW f xs =>
    cases t <;> simp only at h
    · obtain ⟨r, rows, h0, h1, _, h2⟩ := h
      simp only [Kd.goT, Kd.go]
      exact ⟨r, rows, h0, h1, trivial, h2⟩
    · obtain ⟨r, rows, h0, h1, hk, h2⟩ := h
      simp only [Kd.goT, Kd.go]
      exact ⟨r, rows, h0, h1, hk, h2⟩
  case callR f xs =>
    cases t <;> simp only at h
    obtain ⟨r, rows, h0, h1, h2⟩ := h
    simp only [Kd.goT, Kd.go]
    exact ⟨r, rows, h0, h1, trivial, h2⟩
  case callS f xs =>
    cases t <;> simp only at h
    · obtain ⟨r, S', h1, h2, h3⟩ := h
      exact ⟨r, S', h1, trivial, h3⟩
    · obtain ⟨r, S', h1, h2, h3⟩ := h
      exact ⟨r, S', h1, h2, h3⟩
  case callV f xs =>
    split at h
    · rename_i g caps e
      obtain ⟨hp, h⟩ := h
      cases t <;> simp only at h
      · obtain ⟨r, S', h1, h2, h3⟩ := h
        simp only [Kd.goT, Kd.go, e]
        exact ⟨hp, r, S', h1, trivial, h3⟩
      · obtain ⟨r, S', h1, h2, h3⟩ := h
        simp only [Kd.goT, Kd.go, e]
        exact ⟨hp, r, S', h1, h2, h3⟩
    · exact h.elim
theorem run2_run : ∀ {l : List Ins} {s : AS} {K : AS → Prop}, Run2 P l s K → Run P l s K
  | [], s, K, h => h
  | i :: l, s, K, h => by
    unfold Run2 at h
    unfold Run
    split at h
    · split at h
      · rename_i e
        simp only [e]
        exact goT_mono h fun v s' _ h' => run2_run h'
      · rename_i g want e
        simp only [e]
        split at h
        · rename_i b e2
          simp only [e2]
          exact ⟨fun hb => goT_mono (h.1 hb) fun v s' _ h' => run2_run h', fun hb => run2_run (h.2 hb)⟩
        · rename_i e2
          simp only [e2]
          exact run2_run h
        · exact h.elim
    · split at h
      · rename_i e
        simp only [e]
        exact goC_run h
      · rename_i g want e
        simp only [e]
        split at h
        · rename_i b e2
          simp only [e2]
          exact ⟨fun hb => goC_run (h.1 hb), fun hb => run2_run (h.2 hb)⟩
        · rename_i e2
          simp only [e2]
          exact run2_run h
        · exact h.elim
theorem keep_run2 {l : List Ins} {s : AS} {K : AS → Prop} {A : Prop} (h : A ∧ Run2 P l s K) : A ∧ Run P l s K := ⟨h.1, run2_run h.2⟩
theorem IWP.ops2 {C : Ctx} {mu : List Nat} {Q : AX → AS → Prop} {s : AS} {l : List Ins} (h : ∀ K : AS → Prop, (∀ s, Q .normal s → K s) → Run2 P l s K) : IWP P C mu (.ops l) Q s := IWP.opsK fun K hK => run2_run (h K hK)
end
-- the walk's own equations
attribute [go_sem] turnS Run2 Kd.isCall Kd.goC Kd.goT Tag.ok Kd.ptrOpd ptrIs List.forall_mem_cons List.not_mem_nil Kd.go AS.ev AS.evs AS.put AS.set updE AV.cells fills elems stC stCs outC outCs outV outVs flats blkCells idxK listOf cutOf lenOfA binI binS optI pack splice ABlk.len AS.start AS.startS noS List.getElem?_cons_zero List.getElem?_cons_succ List.getElem?_nil List.getElem?_map Option.isSome_none Option.isSome_some Option.map_some Option.map_none Option.getD_some Option.getD_none List.length_map List.length_cons List.length_nil List.length_append List.map_cons List.map_nil List.take_succ_cons List.take_zero List.take_nil List.drop_succ_cons List.drop_zero List.drop_nil List.nil_append List.cons_append List.append_nil Nat.zero_add Nat.add_zero Nat.le_refl Nat.zero_le if_true if_false Bool.false_eq_true true_and and_true Option.some.injEq Int.toNat_natCast Int.natCast_nonneg Int.ofNat_eq_natCast ite_self decide_true decide_false not_true_eq_false not_false_eq_true true_implies false_implies implies_true Bool.true_eq_false eq_self Bool.not_true Bool.not_false beq_self_eq_true Tm.args_mk Tm.name_mk AV.rens AV.ren AC.ren AC.rens ABlk.ren upS_up dn_up dnS_upd dn_upS

theorem upS_set (T : AStore) (i : Nat) (b : ABlk) : upS (updE T i (some b)) = updE (upS T) (up1 i) (some (b.ren up1)) := by
  funext k
  show (if k < 1000 then none else (updE T i (some b) (k - 1000)).map (ABlk.ren up1)) = _
  by_cases e : k = up1 i
  · subst e
    rw [updE_same, if_neg (by have := up1_le i; omega), show up1 i - 1000 = i from dn_up i, updE_same]
    rfl
  · rw [updE_ne _ e]
    by_cases hk : k < 1000
    · rw [if_pos hk]
      show none = if k < 1000 then none else _
      rw [if_pos hk]
    · rw [if_neg hk, updE_ne _ (fun h => e (by rw [← h]; exact (up_dn (by omega)).symm))]
      show _ = if k < 1000 then none else _
      rw [if_neg hk]
/-! short names for the rules -/
abbrev Wa := @IWP.seq
abbrev Wb := @seqQ_normal
abbrev Wc := @IWP.block
abbrev Wd := @IWP.skip
abbrev We := @IWP.exit
abbrev Wf := @IWP.ret
abbrev Wg := @seqQ_exit
abbrev Wh := @seqQ_ret
abbrev Wi := @inBlock_normal
abbrev Wj := @inBlock_here
abbrev Wk := @inBlock_away
abbrev Wl := @inBlock_ret
abbrev Wm := @then_exit
abbrev Wn := @then_ret
abbrev Wo := @IWP.ops2
abbrev Wp := @IWP.cond
abbrev Wq := @run2_run
abbrev Wr := @keep_run2

/-- All own blocks are forgotten; what stays is known. -/
theorem IWP.fresh {P : Program} {C : Ctx} {mu : List Nat} {x : IR} {Q : AX → AS → Prop} {s : AS} (h1000 : ∀ i, 1000 ≤ i → s.S i = none) (h : ∀ env' : Nat → AV, (∀ i v, s.env i = .one (.st v) → env' i = .one (.st v)) → IWP P C mu x Q ⟨env', noS⟩) : IWP P C mu x Q s := by
  refine IWP.ghost (Ghost.low (s := s) fun i b hi hb => by rw [h1000 i hi] at hb; cases hb) ?_
  have e : lowS s.S = noS := by
    funext i
    show (if i < 1000 then none else s.S i) = none
    split
    · rfl
    · exact h1000 i (by omega)
  rw [e]
  exact h _ fun i v hv => by rw [hv]; rfl
/-- What must hold between two pieces of code. -/
theorem IWP.mid {P : Program} {C : Ctx} {mu : List Nat} {x y : IR} {Q : AX → AS → Prop} {s : AS} (M : AS → Prop) (h1 : IWP P C mu x (fun e s => e = .normal ∧ M s) s) (h2 : ∀ s, M s → IWP P C mu y Q s) : IWP P C mu (x.seq y) Q s :=
  IWP.seq (h1.mono fun e s ⟨he, hm⟩ => by subst he; exact seqQ_normal (h2 s hm))
/-- What is shown once, and used where the code goes on behind two ways. -/
theorem once {R G : Prop} (f : R → G) (h : R) : G := f h
end Go.Proofs.YtdmgelbbjppgkaaDoor

namespace Go.Proofs.YtdmgelbbjppgkaaDoor
open Go Go.RowKit
set_option linter.unusedVariables false

def letterI (n : Int) : Bool := decide (97 ≤ n ∧ n ≤ 122) || decide (65 ≤ n ∧ n ≤ 90) || decide (48 ≤ n ∧ n ≤ 57)
def byteAt (s : ByteArray) (k : Nat) : Int := ((s.data.toList.getD k 0).toNat : Int)
theorem byteAt_get (s : ByteArray) (k : Nat) (h : k < s.size) : ((s[k]'h).toNat : Int) = byteAt s k := by
  unfold byteAt
  have h2 : k < s.data.toList.length := by simpa using h
  rw [List.getD_eq_getElem?_getD, List.getElem?_eq_getElem h2]
  rfl
theorem byteAt_range (s : ByteArray) (k : Nat) : 0 ≤ byteAt s k ∧ byteAt s k ≤ 255 := by
  unfold byteAt
  have := (s.data.toList.getD k 0).toNat_lt
  omega
def isVar (s : ByteArray) : Bool := decide (0 < s.size) && decide (65 ≤ byteAt s 0) && decide (byteAt s 0 ≤ 90)
def lettersTo (s : ByteArray) (k : Nat) : Bool := (s.data.toList.take k).all fun c => letterI c.toNat
def nameOk (s : ByteArray) : Bool := decide (1 ≤ s.size) && decide (s.size ≤ 8) && !(decide (48 ≤ byteAt s 0) && decide (byteAt s 0 ≤ 57)) && lettersTo s s.size
theorem lettersTo_succ (s : ByteArray) (k : Nat) (h : k < s.size) : lettersTo s (k + 1) = (lettersTo s k && letterI (byteAt s k)) := by
  unfold lettersTo byteAt
  have h2 : k < s.data.toList.length := by simpa using h
  rw [List.take_add_one, List.getD_eq_getElem?_getD, List.getElem?_eq_getElem h2]
  simp
theorem lettersTo_no (s : ByteArray) (k : Nat) (h : k < s.size) (hn : letterI (byteAt s k) = false) : lettersTo s s.size = false := by
  unfold lettersTo byteAt at *
  have h2 : k < s.data.toList.length := by simpa using h
  rw [List.getD_eq_getElem?_getD, List.getElem?_eq_getElem h2] at hn
  rw [List.all_eq_false]
  refine ⟨s.data.toList[k], ?_, by simpa using hn⟩
  rw [List.take_of_length_le (by simp)]
  exact List.getElem_mem h2
theorem toList_nil (s : ByteArray) : s.toList = [] ↔ s.size = 0 := by
  rw [ByteArray.toList_eq]
  constructor
  · intro h
    have := congrArg List.length h
    simpa using this
  · intro h
    exact List.eq_nil_of_length_eq_zero (by simpa using h)



mutual
def Tm.size : Tm → Nat
  | .mk _ xs => 1 + Tm.sizes xs
def Tm.sizes : List Tm → Nat
  | [] => 0
  | t :: ts => t.size + Tm.sizes ts
end
theorem Tm.sizes_append (xs ys : List Tm) : Tm.sizes (xs ++ ys) = Tm.sizes xs + Tm.sizes ys := by
  induction xs with
  | nil => simp [Tm.sizes]
  | cons t ts ih => simp only [List.cons_append, Tm.sizes, ih]; omega
theorem Tm.sizes_take {xs : List Tm} {k : Nat} {a : Tm} (h : xs[k]? = some a) : Tm.sizes (xs.take (k+1)) = Tm.sizes (xs.take k) + a.size := by
  rw [take_snoc h, Tm.sizes_append]; simp [Tm.sizes]
theorem Tm.sizes_take_le (xs : List Tm) (k : Nat)  : Tm.sizes (xs.take k) ≤ Tm.sizes xs := by
  have := Tm.sizes_append (xs.take k) (xs.drop k)
  rw [List.take_append_drop] at this
  omega
theorem Tm.size_eq (t : Tm) : t.size = 1 + Tm.sizes t.args := by cases t; rfl
theorem Tm.size_pos (t : Tm) : 1 ≤ t.size := by rw [Tm.size_eq]; omega
theorem Tm.size_mem {a : Tm} {xs : List Tm} (h : a ∈ xs) : a.size ≤ Tm.sizes xs := by
  induction xs with
  | nil => simp at h
  | cons t ts ih =>
    rcases List.mem_cons.1 h with rfl | h
    · simp only [Tm.sizes]; omega
    · have := ih h; simp only [Tm.sizes]; omega
theorem Tm.length_le (xs : List Tm) : xs.length ≤ Tm.sizes xs := by
  induction xs with
  | nil => simp [Tm.sizes]
  | cons t ts ih => have := Tm.size_pos t; simp only [Tm.sizes, List.length_cons]; omega
theorem Tm.lt_of_arg {a t : Tm} (h : a ∈ t.args) : SizeOf.sizeOf a < SizeOf.sizeOf t := by
  cases t
  exact Tm.lt_of_mem h
/-- m less s, but -1 at the least -/
def lessBy (s : Nat) (m : Int) : Int := if m < s then -1 else m - s
/-- s, but m + 1 at the most -/
def capTo (s : Nat) (m : Int) : Int := if m < s then m + 1 else s



mutual
def Tm.knots : Tm → List Tm
  | .mk n xs => .mk n xs :: Tm.knotsL xs
def Tm.knotsL : List Tm → List Tm
  | [] => []
  | t :: ts => t.knots ++ Tm.knotsL ts
end
theorem Tm.knots_eq (t : Tm) : t.knots = t :: Tm.knotsL t.args := by cases t; rfl
theorem Tm.knotsL_append (xs ys : List Tm) : Tm.knotsL (xs ++ ys) = Tm.knotsL xs ++ Tm.knotsL ys := by
  induction xs with
  | nil => simp [Tm.knotsL]
  | cons t ts ih => simp [Tm.knotsL, ih]
theorem Tm.knotsL_take {xs : List Tm} {k : Nat} {a : Tm} (h : xs[k]? = some a) : Tm.knotsL (xs.take (k+1)) = Tm.knotsL (xs.take k) ++ a.knots := by
  rw [take_snoc h, Tm.knotsL_append]; simp [Tm.knotsL]
mutual
theorem Tm.knots_length : ∀ t : Tm, t.knots.length = t.size
  | .mk n xs => by simp only [Tm.knots, Tm.size, List.length_cons, Tm.knotsL_length xs]; omega
theorem Tm.knotsL_length : ∀ xs : List Tm, (Tm.knotsL xs).length = Tm.sizes xs
  | [] => rfl
  | t :: ts => by simp only [Tm.knotsL, Tm.sizes, List.length_append, Tm.knots_length t, Tm.knotsL_length ts]
end


def chkOne (t : Tm) : Int := if nameOk t.name = true then (if isVar t.name = true ∧ 0 < t.args.length then 2 else 0) else 1
mutual
def Tm.chk : Tm → Int
  | .mk n xs => if chkOne (.mk n xs) = 0 then Tm.chkL xs else chkOne (.mk n xs)
def Tm.chkL : List Tm → Int
  | [] => 0
  | t :: ts => if t.chk = 0 then Tm.chkL ts else t.chk
end
def firstErr : List Tm → Int
  | [] => 0
  | t :: ts => if chkOne t = 0 then firstErr ts else chkOne t
theorem Tm.chk_eq (t : Tm) : t.chk = if chkOne t = 0 then Tm.chkL t.args else chkOne t := by cases t; rfl
theorem firstErr_append (xs ys : List Tm) : firstErr (xs ++ ys) = if firstErr xs = 0 then firstErr ys else firstErr xs := by
  induction xs with
  | nil => simp [firstErr]
  | cons t ts ih =>
    simp only [List.cons_append, firstErr]
    by_cases h : chkOne t = 0
    · simp only [h, if_true, ih]
    · simp only [h, if_false]
mutual
theorem Tm.firstErr_knots : ∀ t : Tm, firstErr t.knots = t.chk
  | .mk n xs => by
    simp only [Tm.knots, firstErr, Tm.chk]
    split
    · exact Tm.firstErr_knotsL xs
    · rfl
theorem Tm.firstErr_knotsL : ∀ xs : List Tm, firstErr (Tm.knotsL xs) = Tm.chkL xs
  | [] => rfl
  | t :: ts => by
    simp only [Tm.knotsL, firstErr_append, Tm.firstErr_knots t, Tm.firstErr_knotsL ts, Tm.chkL]
end
theorem Tm.chkL_append (xs ys : List Tm) : Tm.chkL (xs ++ ys) = if Tm.chkL xs = 0 then Tm.chkL ys else Tm.chkL xs := by
  induction xs with
  | nil => simp [Tm.chkL]
  | cons t ts ih =>
    simp only [List.cons_append, Tm.chkL]
    by_cases h : t.chk = 0
    · simp only [h, if_true, ih]
    · simp only [h, if_false]
theorem Tm.chkL_get {xs : List Tm} {k : Nat} {a : Tm} (h : xs[k]? = some a) (h0 : Tm.chkL (xs.take k) = 0) : (a.chk = 0 → Tm.chkL (xs.take (k+1)) = 0) ∧ (a.chk ≠ 0 → Tm.chkL xs = a.chk) := by
  constructor
  · intro ha
    rw [take_snoc h, Tm.chkL_append, if_pos h0]
    simp [Tm.chkL, ha]
  · intro ha
    rw [← List.take_append_drop k xs, Tm.chkL_append, if_pos h0]
    have hd : xs.drop k = a :: xs.drop (k+1) := by
      have hk := lt_of_get h
      rw [List.getElem?_eq_getElem hk] at h
      rw [List.drop_eq_getElem_cons hk]
      simp at h
      rw [h]
    rw [hd]
    simp [Tm.chkL, ha]
theorem firstErr_get {xs : List Tm} {k : Nat} {a : Tm} (h : xs[k]? = some a) (h0 : firstErr (xs.take k) = 0) : (chkOne a = 0 → firstErr (xs.take (k+1)) = 0) ∧ (chkOne a ≠ 0 → firstErr xs = chkOne a) := by
  constructor
  · intro ha
    rw [take_snoc h, firstErr_append, if_pos h0]
    simp [firstErr, ha]
  · intro ha
    rw [← List.take_append_drop k xs, firstErr_append, if_pos h0]
    have hd : xs.drop k = a :: xs.drop (k+1) := by
      have hk := lt_of_get h
      rw [List.getElem?_eq_getElem hk] at h
      rw [List.drop_eq_getElem_cons hk]
      simp at h
      rw [h]
    rw [hd]
    simp [firstErr, ha]
/-- may it be? 0: yes; else what is wrong. -/
def Tm.may (t : Tm) : Int := if 200 < t.size then 3 else t.chk
theorem chkOne_range (t : Tm) : 0 ≤ chkOne t ∧ chkOne t ≤ 2 := by unfold chkOne; split <;> (try split) <;> omega
mutual
theorem Tm.chk_range : ∀ t : Tm, 0 ≤ t.chk ∧ t.chk ≤ 2
  | .mk n xs => by
    have h1 := chkOne_range (.mk n xs)
    have h2 := Tm.chkL_range xs
    simp only [Tm.chk]
    split <;> omega
theorem Tm.chkL_range : ∀ xs : List Tm, 0 ≤ Tm.chkL xs ∧ Tm.chkL xs ≤ 2
  | [] => by simp [Tm.chkL]
  | t :: ts => by
    have h1 := Tm.chk_range t
    have h2 := Tm.chkL_range ts
    simp only [Tm.chkL]
    split <;> omega
end
theorem Tm.may_range (t : Tm) : 0 ≤ t.may ∧ t.may ≤ 3 := by
  have := Tm.chk_range t
  unfold Tm.may
  split <;> omega
theorem ne_true {a : Int} (h : a ≠ 0) : (a != 0) = true := by simpa using h
theorem eq_false' {a : Int} (h : a ≠ 0) : (a == 0) = false := by simpa using h


def isIn (x : ByteArray) (l : List ByteArray) : Bool := l.any fun y => decide (y = x)
theorem isIn_iff {x : ByteArray} {l : List ByteArray} : isIn x l = true ↔ x ∈ l := by simp [isIn]
theorem isIn_no {x : ByteArray} {l : List ByteArray} : isIn x l = false ↔ x ∉ l := by rw [← Bool.not_eq_true, isIn_iff]


/-- one name more, if it is a variable's and new -/
def addVar (l : List ByteArray) (n : ByteArray) : List ByteArray := if isVar n && !isIn n l then l ++ [n] else l
def addVars (l : List ByteArray) (ks : List Tm) : List ByteArray := ks.foldl (fun l t => addVar l t.name) l
def Tm.varsOf (t : Tm) : List ByteArray := addVars [] t.knots
theorem addVars_nil (l : List ByteArray) : addVars l [] = l := rfl
theorem addVars_snoc (l : List ByteArray) (ks : List Tm) (t : Tm) : addVars l (ks ++ [t]) = addVar (addVars l ks) t.name := by simp [addVars]
theorem addVars_append (l : List ByteArray) (ks ms : List Tm) : addVars l (ks ++ ms) = addVars (addVars l ks) ms := by simp [addVars]
theorem addVar_yes {l : List ByteArray} {n : ByteArray} (h : isVar n = true) (h' : isIn n l = false) : addVar l n = l ++ [n] := by simp [addVar, h, h']
theorem addVar_in {l : List ByteArray} {n : ByteArray} (h' : isIn n l = true) : addVar l n = l := by simp [addVar, h']
theorem addVar_no {l : List ByteArray} {n : ByteArray} (h : isVar n = false) : addVar l n = l := by simp [addVar, h]
theorem addVar_length (l : List ByteArray) (n : ByteArray) : (addVar l n).length ≤ l.length + 1 := by unfold addVar; split <;> simp
theorem addVars_length : ∀ (ks : List Tm) (l : List ByteArray), (addVars l ks).length ≤ l.length + ks.length
  | [], l => by simp [addVars_nil]
  | t :: ts, l => by
    have h1 := addVars_length ts (addVar l t.name)
    have h2 := addVar_length l t.name
    have h3 : addVars l (t :: ts) = addVars (addVar l t.name) ts := rfl
    rw [h3, List.length_cons]
    omega



mutual
def Tm.places : Tm → List (List Int)
  | .mk _ xs => [] :: Tm.placesFrom 0 xs
def Tm.placesFrom : Nat → List Tm → List (List Int)
  | _, [] => []
  | k, t :: ts => t.places.map (fun p => (k : Int) :: p) ++ Tm.placesFrom (k+1) ts
end
theorem Tm.places_eq (t : Tm) : t.places = [] :: Tm.placesFrom 0 t.args := by cases t; rfl
theorem Tm.placesFrom_snoc (a : Tm) : ∀ (k : Nat) (xs : List Tm), Tm.placesFrom k (xs ++ [a]) = Tm.placesFrom k xs ++ a.places.map (fun p => ((k + xs.length : Nat) : Int) :: p)
  | k, [] => by simp [Tm.placesFrom]
  | k, t :: ts => by
    rw [List.cons_append, Tm.placesFrom, Tm.placesFrom_snoc a (k+1) ts, Tm.placesFrom, List.length_cons, show k + 1 + ts.length = k + (ts.length + 1) by omega, List.append_assoc]
/-- the places ahead of those within the k-th argument -/
def Tm.placesTo (t : Tm) (k : Nat) : List (List Int) := [] :: Tm.placesFrom 0 (t.args.take k)
theorem Tm.placesTo_zero (t : Tm) : t.placesTo 0 = [[]] := rfl
theorem Tm.placesTo_succ {t : Tm} {k : Nat} {a : Tm} (h : t.args[k]? = some a) : t.placesTo (k+1) = t.placesTo k ++ a.places.map (fun p => (k : Int) :: p) := by
  have hl := lt_of_get h
  unfold Tm.placesTo
  rw [take_snoc h, Tm.placesFrom_snoc, List.length_take, Nat.min_eq_left (by omega), Nat.zero_add, List.cons_append]
theorem Tm.placesTo_all {t : Tm} {k : Nat} (h : k = t.args.length) : t.placesTo k = t.places := by
  subst h
  rw [Tm.places_eq, Tm.placesTo, List.take_length]
mutual
theorem Tm.places_length : ∀ t : Tm, t.places.length = t.size
  | .mk n xs => by simp only [Tm.places, Tm.size, List.length_cons, Tm.placesFrom_length 0 xs]; omega
theorem Tm.placesFrom_length : ∀ (k : Nat) (xs : List Tm), (Tm.placesFrom k xs).length = Tm.sizes xs
  | _, [] => rfl
  | k, t :: ts => by simp only [Tm.placesFrom, Tm.sizes, List.length_append, List.length_map, Tm.places_length t, Tm.placesFrom_length (k+1) ts]
end
mutual
theorem Tm.places_deep : ∀ (t : Tm) (p : List Int), p ∈ t.places → p.length ≤ t.size
  | .mk n xs, p, h => by
    simp only [Tm.places, List.mem_cons] at h
    rcases h with rfl | h
    · simp
    · have := Tm.placesFrom_deep 0 xs p h
      simp only [Tm.size]
      omega
theorem Tm.placesFrom_deep : ∀ (k : Nat) (xs : List Tm) (p : List Int), p ∈ Tm.placesFrom k xs → p.length ≤ 1 + Tm.sizes xs
  | _, [], p, h => by simp [Tm.placesFrom] at h
  | k, t :: ts, p, h => by
    simp only [Tm.placesFrom, List.mem_append, List.mem_map] at h
    simp only [Tm.sizes]
    rcases h with ⟨q, hq, rfl⟩ | h
    · have := Tm.places_deep t q hq
      simp only [List.length_cons]
      omega
    · have := Tm.placesFrom_deep (k+1) ts p h
      omega
end
theorem Tm.placesTo_length (t : Tm) (k : Nat) : (t.placesTo k).length = 1 + Tm.sizes (t.args.take k) := by
  rw [Tm.placesTo, List.length_cons, Tm.placesFrom_length]; omega


theorem lessBy_step {s z : Nat} {m : Int} (h : 0 ≤ lessBy s m) : lessBy z (lessBy s m) = lessBy (s + z) m := by
  unfold lessBy at *
  split at h
  · omega
  · rename_i h1
    rw [if_neg h1]
    split <;> split <;> omega
theorem lessBy_neg {s z : Nat} {m : Int} (h : lessBy s m < 0) (hz : s ≤ z) : lessBy s m = lessBy z m := by
  unfold lessBy at *
  split at h
  · rw [if_pos (by assumption), if_pos (by omega)]
  · omega
theorem lessBy_le (s : Nat) (m : Int) (h : 0 ≤ m) : -1 ≤ lessBy s m ∧ lessBy s m ≤ m := by unfold lessBy; split <;> omega
theorem capTo_step {s z : Nat} {m : Int} (h : (s : Int) ≤ m) : (s : Int) + capTo z (m - s) = capTo (s + z) m := by
  unfold capTo
  split <;> split <;> omega
theorem capTo_over {s z : Nat} {m : Int} (h : m < capTo s m) (hz : s ≤ z) : capTo z m = m + 1 := by
  unfold capTo at *
  split at h <;> split <;> omega
theorem capTo_le (s : Nat) (m : Int) (h : 0 ≤ m) : 0 ≤ capTo s m ∧ capTo s m ≤ m + 1 := by unfold capTo; split <;> omega
theorem capTo_in {s : Nat} {m : Int} (h : ¬ m < capTo s m) : capTo s m = s ∧ (s : Int) ≤ m := by
  unfold capTo at *
  split at h
  · omega
  · rename_i h2
    rw [if_neg h2]
    omega
end Go.Proofs.YtdmgelbbjppgkaaDoor

namespace Go.Proofs.YtdmgelbbjppgkaaDoor
open Go Go.RowKit
set_option linter.unusedVariables false

/-! ### the order of texts -/
theorem bl_irrefl : ∀ l : List UInt8, Op.bytesLess l l = false
  | [] => by simp [Op.bytesLess]
  | x :: xs => by simp [Op.bytesLess, bl_irrefl xs]
theorem bl_trans : ∀ (a b c : List UInt8), Op.bytesLess a b = true → Op.bytesLess b c = true → Op.bytesLess a c = true
  | _, [], _, h, _ => by simp [Op.bytesLess] at h
  | _, _ :: _, [], _, k => by simp [Op.bytesLess] at k
  | [], _ :: _, _ :: _, _, _ => by simp [Op.bytesLess]
  | x :: xs, y :: ys, z :: zs, h, k => by
    simp only [Op.bytesLess, Bool.or_eq_true, Bool.and_eq_true, decide_eq_true_eq, beq_iff_eq] at h k ⊢
    rcases h with h | ⟨rfl, h⟩
    · rcases k with k | ⟨rfl, k⟩
      · exact .inl (UInt8.lt_trans h k)
      · exact .inl h
    · rcases k with k | ⟨rfl, k⟩
      · exact .inl k
      · exact .inr ⟨rfl, bl_trans xs ys zs h k⟩
theorem bl_total : ∀ (a b : List UInt8), Op.bytesLess a b = true ∨ a = b ∨ Op.bytesLess b a = true
  | [], [] => .inr (.inl rfl)
  | [], _ :: _ => .inl (by simp [Op.bytesLess])
  | _ :: _, [] => .inr (.inr (by simp [Op.bytesLess]))
  | x :: xs, y :: ys => by
    simp only [Op.bytesLess, Bool.or_eq_true, Bool.and_eq_true, decide_eq_true_eq, beq_iff_eq, List.cons.injEq]
    rcases Nat.lt_trichotomy x.toNat y.toNat with h | h | h
    · exact .inl (.inl h)
    · have e : x = y := UInt8.toNat_inj.1 h
      subst e
      rcases bl_total xs ys with h | h | h
      · exact .inl (.inr ⟨rfl, h⟩)
      · exact .inr (.inl ⟨rfl, h⟩)
      · exact .inr (.inr (.inr ⟨rfl, h⟩))
    · exact .inr (.inr (.inl h))
theorem bytes_eq {a b : ByteArray} (h : a.toList = b.toList) : a = b := by
  rw [ByteArray.toList_eq, ByteArray.toList_eq] at h
  cases a; cases b
  simp only at h
  congr 1
  exact Array.toList_inj.1 h
theorem sLt_irrefl (a : ByteArray) : sLt a a = false := bl_irrefl _
theorem sLt_trans {a b c : ByteArray} (h : sLt a b = true) (k : sLt b c = true) : sLt a c = true := bl_trans _ _ _ h k
theorem sLt_total (a b : ByteArray) : sLt a b = true ∨ a = b ∨ sLt b a = true := by
  rcases bl_total a.toList b.toList with h | h | h
  · exact .inl h
  · exact .inr (.inl (bytes_eq h))
  · exact .inr (.inr h)
theorem sLt_asymm {a b : ByteArray} (h : sLt a b = true) : sLt b a = false := by
  cases k : sLt b a with
  | false => rfl
  | true => have := sLt_trans h k; rw [sLt_irrefl] at this; cases this
def cmpI (a b : ByteArray) : Int := if sLt a b = true then -1 else if a = b then 0 else 1

/-! ### bindings -/
abbrev Bd := ByteArray × Tm
def encB (b : Bd) : List SV := [.str b.1, .str b.2.name, .list (b.2.args.map encT)]
abbrev aBds (l : List Bd) : AV := .one (.st (.list (l.map encB)))
abbrev aBd (b : Bd) : AV := .agg [.st (.str b.1), .st (.str b.2.name), .st (.list (b.2.args.map encT))]
theorem lens_encB {ts : List Bd} : ∀ x ∈ ts.map encB, x.length = 3 := by
  intro x hx
  obtain ⟨a, _, rfl⟩ := List.mem_map.1 hx
  rfl
/-- is the later name no greater? -/
def ordBad (cur prev : ByteArray) : Bool := sLt cur prev || decide (cur = prev)
def bindErr (prev : Option ByteArray) (b : Bd) : Int :=
  if nameOk b.1 = true ∧ isVar b.1 = true then (if (prev.any fun p => ordBad b.1 p) = true then 14 else b.2.may) else 1
def lastName (p : Option ByteArray) : List Bd → Option ByteArray
  | [] => p
  | b :: bs => lastName (some b.1) bs
def bindsErr : Option ByteArray → List Bd → Int
  | _, [] => 0
  | p, b :: bs => if bindErr p b = 0 then bindsErr (some b.1) bs else bindErr p b
def bindsMay (l : List Bd) : Int := if 40 < l.length then 3 else bindsErr none l
theorem bindsErr_append : ∀ (p : Option ByteArray) (xs ys : List Bd), bindsErr p (xs ++ ys) = if bindsErr p xs = 0 then bindsErr (lastName p xs) ys else bindsErr p xs
  | p, [], ys => by simp [bindsErr, lastName]
  | p, b :: xs, ys => by
    simp only [List.cons_append, bindsErr, lastName]
    by_cases h : bindErr p b = 0
    · simp only [h, if_true, bindsErr_append]
    · simp only [h, if_false]
theorem lastName_append (p : Option ByteArray) (xs : List Bd) (b : Bd) : lastName p (xs ++ [b]) = some b.1 := by
  induction xs generalizing p with
  | nil => rfl
  | cons x xs ih => exact ih _
theorem lastName_take {xs : List Bd} {k : Nat} {b : Bd} (h : xs[k]? = some b) : lastName none (xs.take (k + 1)) = some b.1 := by rw [take_snoc h, lastName_append]
theorem drop_get {α : Type} {xs : List α} {k : Nat} {a : α} (h : xs[k]? = some a) : xs.drop k = a :: xs.drop (k + 1) := by
  have hk := lt_of_get h
  rw [List.getElem?_eq_getElem hk] at h
  rw [List.drop_eq_getElem_cons hk]
  simp at h
  rw [h]
theorem bindsErr_get {xs : List Bd} {k : Nat} {b : Bd} (h : xs[k]? = some b) (h0 : bindsErr none (xs.take k) = 0) :
    (bindErr (lastName none (xs.take k)) b = 0 → bindsErr none (xs.take (k + 1)) = 0) ∧ (bindErr (lastName none (xs.take k)) b ≠ 0 → bindsErr none xs = bindErr (lastName none (xs.take k)) b) := by
  constructor
  · intro hb
    rw [take_snoc h, bindsErr_append, if_pos h0]
    simp [bindsErr, hb]
  · intro hb
    have e : bindsErr none xs = bindsErr none (xs.take k ++ xs.drop k) := by rw [List.take_append_drop]
    rw [e, bindsErr_append, if_pos h0, drop_get h]
    simp [bindsErr, hb]
theorem bindErr_zero {p : Option ByteArray} {b : Bd} (h : bindErr p b = 0) : nameOk b.1 = true ∧ isVar b.1 = true ∧ b.2.may = 0 ∧ ∀ q, p = some q → sLt q b.1 = true := by
  unfold bindErr at h
  split at h
  · rename_i h1
    split at h
    · cases h
    · rename_i h2
      refine ⟨h1.1, h1.2, h, fun q hq => ?_⟩
      subst hq
      simp only [Option.any_some, ordBad, Bool.or_eq_true, decide_eq_true_eq, not_or] at h2
      rcases sLt_total q b.1 with h3 | h3 | h3
      · exact h3
      · exact absurd h3.symm h2.2
      · exact absurd h3 h2.1
  · cases h
/-- Names in order, each greater than those ahead. -/
def Ordered (l : List Bd) : Prop := l.Pairwise fun a b => sLt a.1 b.1 = true
structure GoodBs (l : List Bd) : Prop where
  ord : Ordered l
  ok : ∀ b ∈ l, nameOk b.1 = true ∧ isVar b.1 = true ∧ b.2.may = 0
theorem bindsErr_good : ∀ {p : Option ByteArray} {l : List Bd}, bindsErr p l = 0 → (∀ q, p = some q → ∀ b ∈ l, sLt q b.1 = true) ∧ Ordered l ∧ ∀ b ∈ l, nameOk b.1 = true ∧ isVar b.1 = true ∧ b.2.may = 0
  | p, [], _ => ⟨by simp, List.Pairwise.nil, by simp⟩
  | p, b :: bs, h => by
    simp only [bindsErr] at h
    split at h
    · rename_i h1
      obtain ⟨q1, q2, q3, q4⟩ := bindErr_zero h1
      obtain ⟨r1, r2, r3⟩ := bindsErr_good h
      have r1 := r1 _ rfl
      refine ⟨fun q hq c hc => ?_, List.pairwise_cons.2 ⟨r1, r2⟩, fun c hc => ?_⟩
      · rcases List.mem_cons.1 hc with rfl | hc
        · exact q4 q hq
        · exact sLt_trans (q4 q hq) (r1 c hc)
      · rcases List.mem_cons.1 hc with rfl | hc
        · exact ⟨q1, q2, q3⟩
        · exact r3 c hc
    · rename_i h1
      exact absurd h h1
theorem bindsMay_good {l : List Bd} (h : bindsMay l = 0) : GoodBs l ∧ l.length ≤ 40 := by
  unfold bindsMay at h
  split at h
  · cases h
  · obtain ⟨_, h1, h2⟩ := bindsErr_good h
    exact ⟨⟨h1, h2⟩, by omega⟩

/-! ### what stands for a name -/
def lookup (l : List Bd) (n : ByteArray) : Option Tm := (l.find? fun b => decide (b.1 = n)).map (·.2)
theorem lookup_none {l : List Bd} {n : ByteArray} (h : ∀ b ∈ l, b.1 ≠ n) : lookup l n = none := by
  unfold lookup
  rw [List.find?_eq_none.2 (fun b hb => by simpa using h b hb)]
  rfl
theorem lookup_take {l : List Bd} {n : ByteArray} {k : Nat} {b : Bd} (hk : l[k]? = some b) (hb : b.1 = n) (h : ∀ c ∈ l.take k, c.1 ≠ n) : lookup l n = some b.2 := by
  unfold lookup
  rw [← List.take_append_drop k l, List.find?_append, List.find?_eq_none.2 (fun c hc => by simpa using h c hc), drop_get hk]
  simp [hb]
theorem lookup_mem {l : List Bd} {n : ByteArray} {x : Tm} (h : lookup l n = some x) : ∃ b ∈ l, b.1 = n ∧ b.2 = x := by
  unfold lookup at h
  rw [Option.map_eq_some_iff] at h
  obtain ⟨b, h1, h2⟩ := h
  exact ⟨b, List.mem_of_find?_eq_some h1, by simpa using List.find?_some h1, h2⟩
/-- In order, a name stands once. -/
theorem ordered_get {l : List Bd} (h : Ordered l) {i j : Nat} {a b : Bd} (hi : l[i]? = some a) (hj : l[j]? = some b) (hij : i < j) : sLt a.1 b.1 = true := by
  have h1 := List.pairwise_iff_getElem.1 h
  obtain ⟨hi1, hi2⟩ := List.getElem?_eq_some_iff.1 hi
  obtain ⟨hj1, hj2⟩ := List.getElem?_eq_some_iff.1 hj
  have := h1 i j hi1 hj1 hij
  rw [hi2, hj2] at this
  exact this

/-! ### substitution -/
mutual
def Tm.on (s : List Bd) : Tm → Tm
  | .mk n xs => match (if xs.isEmpty then lookup s n else none) with
    | some x => x
    | none => .mk n (Tm.onL s xs)
def Tm.onL (s : List Bd) : List Tm → List Tm
  | [] => []
  | t :: ts => t.on s :: Tm.onL s ts
end
theorem Tm.onL_eq (s : List Bd) : ∀ ts : List Tm, Tm.onL s ts = ts.map (Tm.on s)
  | [] => rfl
  | t :: ts => by rw [Tm.onL, Tm.onL_eq s ts]; rfl
theorem Tm.on_leaf {s : List Bd} {t x : Tm} (h : lookup s t.name = some x) (h0 : t.args = []) : t.on s = x := by
  cases t with
  | mk n xs =>
    simp only [Tm.name_mk, Tm.args_mk] at h h0
    subst h0
    simp [Tm.on, h]
theorem Tm.on_knot {s : List Bd} {t : Tm} (h : lookup s t.name = none ∨ t.args ≠ []) : t.on s = .mk t.name (t.args.map (Tm.on s)) := by
  cases t with
  | mk n xs =>
    simp only [Tm.name_mk, Tm.args_mk] at h ⊢
    rw [← Tm.onL_eq]
    rcases h with h | h
    · simp [Tm.on, h]
    · cases xs with
      | nil => exact absurd rfl h
      | cons y ys => simp [Tm.on]
/-- no knot with a variable's name has arguments -/
theorem Tm.chk_args {t : Tm} (h : t.chk = 0) : (isVar t.name = true → t.args = []) ∧ ∀ a ∈ t.args, a.chk = 0 := by
  have hc := Tm.chk_eq t
  rw [h] at hc
  by_cases h1 : chkOne t = 0
  · rw [if_pos h1] at hc
    have key : ∀ {xs : List Tm}, Tm.chkL xs = 0 → ∀ a ∈ xs, a.chk = 0 := by
      intro xs
      induction xs with
      | nil => simp
      | cons x xs ih =>
        intro hx a ha
        simp only [Tm.chkL] at hx
        split at hx
        · rename_i h2
          rcases List.mem_cons.1 ha with rfl | ha
          · exact h2
          · exact ih hx a ha
        · rename_i h2
          exact absurd hx h2
    refine ⟨fun hv => ?_, key hc.symm⟩
    unfold chkOne at h1
    split at h1
    · split at h1
      · cases h1
      · rename_i h2
        simp only [hv, true_and, Nat.not_lt, Nat.le_zero] at h2
        exact List.eq_nil_of_length_eq_zero h2
    · cases h1
  · rw [if_neg h1] at hc
    exact absurd hc.symm h1
theorem Tm.may_chk {t : Tm} (h : t.may = 0) : t.chk = 0 ∧ t.size ≤ 200 := by
  unfold Tm.may at h
  split at h
  · cases h
  · exact ⟨h, by omega⟩

/-! ### classes -/
def stays (s : List Bd) : Bool := s.all fun b => b.2.varsOf.all fun v => match lookup s v with
  | some x => decide (x.name = v)
  | none => true
def namesGo : List ByteArray → List Bd → Bool
  | _, [] => true
  | seen, b :: bs => isVar b.2.name && !isIn b.2.name seen && namesGo (seen ++ [b.2.name]) bs
def justNames (s : List Bd) : Bool := namesGo [] s
theorem namesGo_append : ∀ (seen : List ByteArray) (xs ys : List Bd), namesGo seen (xs ++ ys) = (namesGo seen xs && namesGo (seen ++ xs.map (·.2.name)) ys)
  | seen, [], ys => by simp [namesGo]
  | seen, b :: xs, ys => by
    simp only [List.cons_append, namesGo, namesGo_append, List.map_cons, List.append_assoc, Bool.and_assoc, List.nil_append]
end Go.Proofs.YtdmgelbbjppgkaaDoor

namespace Go.Proofs.YtdmgelbbjppgkaaDoor
open Go Go.RowKit
set_option linter.unusedVariables false

/-- A binding laid into a sorted row: behind all whose names are no greater. -/
def insB (b : Bd) : List Bd → List Bd
  | [] => [b]
  | c :: l => if sLt b.1 c.1 = true then b :: c :: l else c :: insB b l
def sortB (l : List Bd) : List Bd := l.foldl (fun acc b => insB b acc) []
/-- No two names alike. -/
def Named (l : List Bd) : Prop := (l.map (·.1)).Nodup
theorem insB_perm (b : Bd) : ∀ l : List Bd, (insB b l).Perm (b :: l)
  | [] => List.Perm.refl _
  | c :: l => by
    unfold insB
    split
    · exact List.Perm.refl _
    · exact ((insB_perm b l).cons c).trans (List.Perm.swap b c l)
theorem insB_ordered {b : Bd} : ∀ {l : List Bd}, Ordered l → (∀ c ∈ l, c.1 ≠ b.1) → Ordered (insB b l)
  | [], _, _ => List.pairwise_cons.2 ⟨by simp, List.Pairwise.nil⟩
  | c :: l, ho, hn => by
    obtain ⟨o1, o2⟩ := List.pairwise_cons.1 ho
    unfold insB
    split
    · rename_i h
      exact List.pairwise_cons.2 ⟨fun x hx => by
        rcases List.mem_cons.1 hx with rfl | hx
        · exact h
        · exact sLt_trans h (o1 x hx), ho⟩
    · rename_i h
      refine List.pairwise_cons.2 ⟨fun x hx => ?_, insB_ordered o2 fun x hx => hn x (by simp [hx])⟩
      rcases List.mem_cons.1 ((insB_perm b l).mem_iff.1 hx) with rfl | hx
      · rcases sLt_total c.1 x.1 with k | k | k
        · exact k
        · exact absurd k (hn c (by simp))
        · exact absurd k h
      · exact o1 x hx
theorem sortB_snoc (l : List Bd) (b : Bd) : sortB (l ++ [b]) = insB b (sortB l) := by unfold sortB; rw [List.foldl_append]; rfl
theorem foldl_ins_perm : ∀ (l acc : List Bd), (l.foldl (fun acc b => insB b acc) acc).Perm (l ++ acc)
  | [], acc => List.Perm.refl _
  | b :: l, acc => by
    rw [List.foldl_cons]
    refine (foldl_ins_perm l _).trans ?_
    refine ((insB_perm b acc).append_left l).trans ?_
    exact List.perm_middle
theorem sortB_perm (l : List Bd) : (sortB l).Perm l := by
  have := foldl_ins_perm l []
  rw [List.append_nil] at this
  exact this
theorem foldl_ins_ordered : ∀ (l acc : List Bd), Ordered acc → Named (acc ++ l) → Ordered (l.foldl (fun acc b => insB b acc) acc)
  | [], acc, ho, _ => ho
  | b :: l, acc, ho, hn => by
    rw [List.foldl_cons]
    have hp : (acc ++ b :: l).Perm (insB b acc ++ l) := (List.perm_middle).trans (by rw [← List.cons_append]; exact ((insB_perm b acc).symm.append_right l))
    refine foldl_ins_ordered l _ (insB_ordered ho fun c hc e => ?_) ((hp.map _).nodup_iff.1 hn)
    unfold Named at hn
    rw [List.map_append, List.nodup_append] at hn
    exact hn.2.2 _ (List.mem_map.2 ⟨c, hc, rfl⟩) _ (by simp) e
theorem sortB_ordered {l : List Bd} (hn : Named l) : Ordered (sortB l) := foldl_ins_ordered l [] List.Pairwise.nil (by simpa using hn)
theorem ordered_named {l : List Bd} (ho : Ordered l) : Named l := by
  unfold Named
  rw [List.nodup_iff_pairwise_ne, List.pairwise_map]
  exact ho.imp fun {a b} h e => by rw [e, sLt_irrefl] at h; cases h
theorem ordered_unique : ∀ {l m : List Bd}, Ordered l → Ordered m → l.Perm m → l = m
  | [], m, _, _, h => (List.nil_perm.1 h).symm
  | a :: l, [], _, _, h => absurd h.length_eq (by simp)
  | a :: l, c :: m, hl, hm, h => by
    obtain ⟨l1, l2⟩ := List.pairwise_cons.1 hl
    obtain ⟨m1, m2⟩ := List.pairwise_cons.1 hm
    have e : a = c := by
      rcases List.mem_cons.1 (h.mem_iff.1 (List.mem_cons_self)) with e | e
      · exact e
      · rcases List.mem_cons.1 (h.mem_iff.2 (List.mem_cons_self)) with e2 | e2
        · exact e2.symm
        · have := sLt_trans (m1 a e) (l1 c e2)
          rw [sLt_irrefl] at this
          cases this
    subst e
    rw [ordered_unique l2 m2 (List.Perm.cons_inv h)]
theorem sortB_id {l : List Bd} (ho : Ordered l) : sortB l = l := ordered_unique (sortB_ordered (ordered_named ho)) ho (sortB_perm l)
theorem sortB_mem {l : List Bd} {b : Bd} : b ∈ sortB l ↔ b ∈ l := (sortB_perm l).mem_iff
theorem sortB_length (l : List Bd) : (sortB l).length = l.length := (sortB_perm l).length_eq
theorem named_perm {l m : List Bd} (h : l.Perm m) (hn : Named l) : Named m := ((h.map _).nodup_iff).1 hn
end Go.Proofs.YtdmgelbbjppgkaaDoor

namespace Go.Proofs.YtdmgelbbjppgkaaDoor
open Go Go.RowKit
set_option linter.unusedVariables false

/-- It stands for itself. -/
def selfB (b : Bd) : Bool := decide (b.2.name = b.1)
def keepB (l : List Bd) : List Bd := l.filter fun b => !selfB b
theorem keepB_append (l m : List Bd) : keepB (l ++ m) = keepB l ++ keepB m := List.filter_append _ _
theorem keepB_all {l : List Bd} (h : ∀ c ∈ l, selfB c = false) : keepB l = l := List.filter_eq_self.2 fun c hc => by rw [h c hc]; rfl
theorem keepB_len (l : List Bd) : (keepB l).length ≤ l.length := List.length_filter_le _ _
theorem keepB_yes {b : Bd} (h : selfB b = false) : keepB [b] = [b] := by unfold keepB; rw [List.filter_cons_of_pos (by rw [h]; rfl)]; rfl
theorem keepB_no {b : Bd} (h : selfB b = true) : keepB [b] = [] := by unfold keepB; rw [List.filter_cons_of_neg (by rw [h]; simp)]; rfl
def putIn (r : List Bd) (l : List Bd) : List Bd := l.map fun b => (b.1, b.2.on r)
def newIn (s : List Bd) (l : List Bd) : List Bd := l.filter fun b => !(lookup s b.1).isSome
theorem newIn_append (s l m : List Bd) : newIn s (l ++ m) = newIn s l ++ newIn s m := List.filter_append _ _
theorem newIn_yes {s : List Bd} {b : Bd} (h : (lookup s b.1).isSome = false) : newIn s [b] = [b] := by unfold newIn; rw [List.filter_cons_of_pos (by rw [h]; rfl)]; rfl
theorem newIn_no {s : List Bd} {b : Bd} (h : (lookup s b.1).isSome = true) : newIn s [b] = [] := by unfold newIn; rw [List.filter_cons_of_neg (by rw [h]; simp)]; rfl
def joined (s r : List Bd) : List Bd := putIn r s ++ newIn s r
def thenOf (s r : List Bd) : List Bd × Int := if (s.all fun b => decide ((b.2.on r).size ≤ 2000)) = true then (sortB (keepB (joined s r)), 0) else ([], 8)
theorem joined_named {s r : List Bd} (hs : Ordered s) (hr : Ordered r) : Named (joined s r) := by
  have h1 := ordered_named hs
  have h2 := ordered_named hr
  unfold Named at *
  unfold joined putIn newIn
  rw [List.map_append, List.map_map, List.nodup_append]
  refine ⟨h1, h2.sublist (List.Sublist.map _ List.filter_sublist), fun a ha b hb e => ?_⟩
  obtain ⟨c, hc, rfl⟩ := List.mem_map.1 ha
  obtain ⟨d, hd, rfl⟩ := List.mem_map.1 hb
  obtain ⟨hd1, hd2⟩ := List.mem_filter.1 hd
  cases hl : lookup s d.1 with
  | some x => rw [hl] at hd2; simp at hd2
  | none =>
    have hdom : ∀ b ∈ s, b.1 ≠ d.1 := by
      unfold lookup at hl
      rw [Option.map_eq_none_iff, List.find?_eq_none] at hl
      exact fun b hb e => hl b hb (by simpa using e)
    exact hdom c hc e
theorem keep_named {l : List Bd} (h : Named l) : Named (keepB l) := by
  unfold Named at *
  exact h.sublist (List.Sublist.map _ List.filter_sublist)
/-- The first that stands for itself. -/
theorem first_self : ∀ {l : List Bd}, ¬ (∀ c ∈ l, selfB c = false) → ∃ k b, l[k]? = some b ∧ selfB b = true ∧ ∀ c ∈ l.take k, selfB c = false
  | [], h => absurd (by simp) h
  | b :: l, h => by
    cases hb : selfB b with
    | true => exact ⟨0, b, rfl, hb, by simp⟩
    | false =>
      obtain ⟨k, c, h1, h2, h3⟩ := first_self (l := l) fun hall => h fun c hc => by
        rcases List.mem_cons.1 hc with rfl | hc
        · exact hb
        · exact hall c hc
      refine ⟨k + 1, c, h1, h2, fun d hd => ?_⟩
      rw [List.take_succ_cons] at hd
      rcases List.mem_cons.1 hd with rfl | hd
      · exact hb
      · exact h3 d hd
end Go.Proofs.YtdmgelbbjppgkaaDoor

namespace Go.Proofs.YtdmgelbbjppgkaaDoor
open Go Go.RowKit
set_option linter.unusedVariables false

/-! ### what stands for a name -/
theorem lookup_nil (y : ByteArray) : lookup [] y = none := rfl
theorem lookup_cons (b : Bd) (l : List Bd) (y : ByteArray) : lookup (b :: l) y = if b.1 = y then some b.2 else lookup l y := by
  unfold lookup
  by_cases h : b.1 = y
  · rw [List.find?_cons_of_pos (by simpa using h), if_pos h]; rfl
  · rw [List.find?_cons_of_neg (by simpa using h), if_neg h]
theorem lookup_iff {l : List Bd} (hn : Named l) {y : ByteArray} {x : Tm} : lookup l y = some x ↔ (y, x) ∈ l := by
  induction l with
  | nil => simp [lookup_nil]
  | cons b l ih =>
    obtain ⟨n1, n2⟩ := List.nodup_cons.1 (show ((b :: l).map fun c : Bd => c.1).Nodup from hn)
    rw [lookup_cons, List.mem_cons]
    by_cases h : b.1 = y
    · rw [if_pos h]
      constructor
      · intro e
        cases e
        exact .inl (by rw [← h])
      · rintro (e | e)
        · rw [← e]
        · exact absurd (List.mem_map.2 ⟨(y, x), e, rfl⟩) (by subst h; exact n1)
    · rw [if_neg h, ih n2]
      constructor
      · exact .inr
      · rintro (e | e)
        · exact absurd (by rw [← e]) h
        · exact e
theorem lookup_putIn (r : List Bd) (y : ByteArray) : ∀ l : List Bd, lookup (putIn r l) y = (lookup l y).map (Tm.on r)
  | [] => rfl
  | b :: l => by
    have e : putIn r (b :: l) = (b.1, b.2.on r) :: putIn r l := rfl
    rw [e, lookup_cons, lookup_cons, lookup_putIn r y l]
    by_cases h : b.1 = y
    · rw [if_pos h, if_pos h]; rfl
    · rw [if_neg h, if_neg h]
theorem lookup_append (y : ByteArray) (m : List Bd) : ∀ l : List Bd, lookup (l ++ m) y = match lookup l y with | some x => some x | none => lookup m y
  | [] => rfl
  | b :: l => by
    rw [List.cons_append, lookup_cons, lookup_cons, lookup_append y m l]
    by_cases h : b.1 = y
    · rw [if_pos h, if_pos h]
    · rw [if_neg h, if_neg h]
theorem lookup_newIn (s : List Bd) (y : ByteArray) (h : lookup s y = none) : ∀ r : List Bd, lookup (newIn s r) y = lookup r y
  | [] => rfl
  | b :: r => by
    unfold newIn
    by_cases e : b.1 = y
    · rw [List.filter_cons_of_pos (by rw [e, h]; rfl), lookup_cons, lookup_cons, if_pos e, if_pos e]
    · have ih := lookup_newIn s y h r
      unfold newIn at ih
      rw [List.filter_cons]
      split
      · rw [lookup_cons, lookup_cons, if_neg e, if_neg e, ih]
      · rw [lookup_cons, if_neg e, ih]
theorem lookup_joined (s r : List Bd) (y : ByteArray) : lookup (joined s r) y = match lookup s y with | some x => some (x.on r) | none => lookup r y := by
  unfold joined
  rw [lookup_append, lookup_putIn]
  cases h : lookup s y with
  | none => rw [Option.map_none]; exact lookup_newIn s y h r
  | some x => rfl

/-! ### doing one behind the other -/
def leafT (y : ByteArray) : Tm := .mk y []
theorem on_leafT (s : List Bd) (y : ByteArray) : (leafT y).on s = (lookup s y).getD (leafT y) := by
  cases h : lookup s y with
  | none => rw [Tm.on_knot (.inl h)]; rfl
  | some x => rw [Tm.on_leaf h rfl]; rfl
theorem leaf_of {t : Tm} (h : t.args = []) : t = leafT t.name := by
  cases t with
  | mk n xs =>
    simp only [Tm.args_mk] at h
    subst h
    rfl
/-- A list of bindings as it should be. -/
structure OkB (s : List Bd) : Prop where
  ord : Ordered s
  var : ∀ b ∈ s, isVar b.1 = true
  nam : ∀ b ∈ s, nameOk b.1 = true
  chk : ∀ b ∈ s, b.2.chk = 0
theorem chk_parts {t : Tm} (h : t.chk = 0) : chkOne t = 0 := by
  rw [Tm.chk_eq] at h
  by_cases h1 : chkOne t = 0
  · exact h1
  · rw [if_neg h1] at h; exact h
theorem chk_make {n : ByteArray} {xs ys : List Tm} (h : (Tm.mk n xs).chk = 0) (hl : ys.length = xs.length) (hy : ∀ y ∈ ys, y.chk = 0) : (Tm.mk n ys).chk = 0 := by
  have h1 : chkOne (Tm.mk n ys) = 0 := by
    have := chk_parts h
    unfold chkOne at this ⊢
    rw [Tm.name_mk, Tm.args_mk] at this ⊢
    rw [hl]; exact this
  rw [Tm.chk_eq, if_pos h1, Tm.args_mk]
  clear h h1 hl
  induction ys with
  | nil => rfl
  | cons x ys ih =>
    simp only [Tm.chkL]
    rw [if_pos (hy x (by simp))]
    exact ih fun y h => hy y (by simp [h])
theorem chk_sub {s : List Bd} (hs : ∀ b ∈ s, b.2.chk = 0) {t : Tm} (hc : t.chk = 0) : (t.on s).chk = 0 := by
  induction hN : SizeOf.sizeOf t using Nat.strongRecOn generalizing t with
  | _ N ih =>
  subst hN
  obtain ⟨c1, c2⟩ := Tm.chk_args hc
  by_cases hleaf : (∃ x, lookup s t.name = some x) ∧ t.args = []
  · obtain ⟨⟨x, hx⟩, h0⟩ := hleaf
    rw [Tm.on_leaf hx h0]
    obtain ⟨b, hb, _, rfl⟩ := lookup_mem hx
    exact hs b hb
  · have hon : t.on s = .mk t.name (t.args.map (Tm.on s)) := Tm.on_knot (by
      cases hl : lookup s t.name with
      | none => exact .inl rfl
      | some x => exact .inr fun h0 => hleaf ⟨⟨x, hl⟩, h0⟩)
    rw [hon]
    refine chk_make (xs := t.args) (by cases t; exact hc) (by simp) fun y hy => ?_
    obtain ⟨c, hc', rfl⟩ := List.mem_map.1 hy
    exact ih _ (Tm.lt_of_arg hc') (c2 c hc') rfl
theorem size_sub {s : List Bd} {M : Nat} (hM : 1 ≤ M) (hs : ∀ b ∈ s, b.2.size ≤ M) (t : Tm) : (t.on s).size ≤ t.size * M := by
  induction hN : SizeOf.sizeOf t using Nat.strongRecOn generalizing t with
  | _ N ih =>
  subst hN
  have hsz := Tm.size_eq t
  by_cases hleaf : (∃ x, lookup s t.name = some x) ∧ t.args = []
  · obtain ⟨⟨x, hx⟩, h0⟩ := hleaf
    rw [Tm.on_leaf hx h0]
    obtain ⟨b, hb, _, rfl⟩ := lookup_mem hx
    have := hs b hb
    have h1 := Nat.mul_le_mul_right M (Tm.size_pos t)
    omega
  · have hon : t.on s = .mk t.name (t.args.map (Tm.on s)) := Tm.on_knot (by
      cases hl : lookup s t.name with
      | none => exact .inl rfl
      | some x => exact .inr fun h0 => hleaf ⟨⟨x, hl⟩, h0⟩)
    have key : ∀ xs : List Tm, (∀ x ∈ xs, (x.on s).size ≤ x.size * M) → Tm.sizes (xs.map (Tm.on s)) ≤ Tm.sizes xs * M := by
      intro xs
      induction xs with
      | nil => intro _; simp [Tm.sizes]
      | cons x xs ih2 =>
        intro h
        have h1 := h x (by simp)
        have h2 := ih2 fun y hy => h y (by simp [hy])
        simp only [List.map_cons, Tm.sizes]
        rw [Nat.add_mul]
        omega
    have hk := key t.args fun x hx => ih _ (Tm.lt_of_arg hx) x rfl
    rw [hon]
    have e : (Tm.mk t.name (t.args.map (Tm.on s))).size = 1 + Tm.sizes (t.args.map (Tm.on s)) := rfl
    rw [e, hsz, Nat.add_mul]
    omega
/-- The list that is told. -/
def composed (s r : List Bd) : List Bd := sortB (keepB (joined s r))
theorem composed_named {s r : List Bd} (hs : OkB s) (hr : OkB r) : Named (composed s r) := ordered_named (sortB_ordered (keep_named (joined_named hs.ord hr.ord)))
theorem composed_iff {s r : List Bd} (hs : OkB s) (hr : OkB r) {y : ByteArray} {x : Tm} : lookup (composed s r) y = some x ↔ lookup (joined s r) y = some x ∧ x.name ≠ y := by
  rw [lookup_iff (composed_named hs hr), lookup_iff (joined_named hs.ord hr.ord)]
  unfold composed keepB
  rw [sortB_mem, List.mem_filter]
  refine and_congr_right fun _ => ?_
  unfold selfB
  simp
theorem joined_mem {s r : List Bd} {b : Bd} (h : b ∈ joined s r) : (∃ c ∈ s, b = (c.1, c.2.on r)) ∨ b ∈ r := by
  unfold joined at h
  rcases List.mem_append.1 h with h | h
  · obtain ⟨c, hc, rfl⟩ := List.mem_map.1 h
    exact .inl ⟨c, hc, rfl⟩
  · exact .inr (List.mem_filter.1 h).1
theorem composed_mem {s r : List Bd} {b : Bd} (h : b ∈ composed s r) : (∃ c ∈ s, b = (c.1, c.2.on r)) ∨ b ∈ r := joined_mem (List.mem_filter.1 (sortB_mem.1 h)).1
theorem composed_ok {s r : List Bd} (hs : OkB s) (hr : OkB r) : OkB (composed s r) := by
  refine ⟨sortB_ordered (keep_named (joined_named hs.ord hr.ord)), fun b hb => ?_, fun b hb => ?_, fun b hb => ?_⟩
  · rcases composed_mem hb with ⟨c, hc, rfl⟩ | h
    · exact hs.var c hc
    · exact hr.var b h
  · rcases composed_mem hb with ⟨c, hc, rfl⟩ | h
    · exact hs.nam c hc
    · exact hr.nam b h
  · rcases composed_mem hb with ⟨c, hc, rfl⟩ | h
    · exact chk_sub hr.chk (hs.chk c hc)
    · exact hr.chk b h
theorem none_of {s : List Bd} (hs : OkB s) {y : ByteArray} (h : isVar y = false) : lookup s y = none := lookup_none fun b hb e => by
  have := hs.var b hb
  rw [e, h] at this
  cases this
/-- One behind the other. -/
theorem on_composed {s r : List Bd} (hs : OkB s) (hr : OkB r) {t : Tm} (hc : t.chk = 0) : t.on (composed s r) = (t.on s).on r := by
  induction hN : SizeOf.sizeOf t using Nat.strongRecOn generalizing t with
  | _ N ih =>
  subst hN
  obtain ⟨c1, c2⟩ := Tm.chk_args hc
  by_cases ha : t.args = []
  · have ht := leaf_of ha
    rw [ht, on_leafT, on_leafT]
    have hself : ∀ x : Tm, x.chk = 0 → x.name = t.name → isVar t.name = true → x = leafT t.name := fun x hx hn hv => by
      have := leaf_of ((Tm.chk_args hx).1 (by rw [hn]; exact hv))
      rw [this, hn]
    have hiff := fun x => composed_iff hs hr (y := t.name) (x := x)
    cases hl : lookup s t.name with
    | some x =>
      obtain ⟨b, hb, hbn, rfl⟩ := lookup_mem hl
      have hv : isVar t.name = true := by rw [← hbn]; exact hs.var b hb
      have hj : lookup (joined s r) t.name = some (b.2.on r) := by rw [lookup_joined, hl]
      show (lookup (composed s r) t.name).getD _ = b.2.on r
      by_cases hn : (b.2.on r).name = t.name
      · have hnone : lookup (composed s r) t.name = none := by
          cases hq : lookup (composed s r) t.name with
          | none => rfl
          | some z =>
            obtain ⟨q1, q2⟩ := (hiff z).1 hq
            rw [hj] at q1
            cases q1
            exact absurd hn q2
        rw [hnone]
        exact (hself _ (chk_sub hr.chk (hs.chk b hb)) hn hv).symm
      · rw [(hiff _).2 ⟨hj, hn⟩]
        rfl
    | none =>
      show (lookup (composed s r) t.name).getD _ = (leafT t.name).on r
      rw [on_leafT]
      have hj : lookup (joined s r) t.name = lookup r t.name := by rw [lookup_joined, hl]
      cases hlr : lookup r t.name with
      | some x =>
        obtain ⟨b, hb, hbn, rfl⟩ := lookup_mem hlr
        have hv : isVar t.name = true := by rw [← hbn]; exact hr.var b hb
        by_cases hn : b.2.name = t.name
        · have hnone : lookup (composed s r) t.name = none := by
            cases hq : lookup (composed s r) t.name with
            | none => rfl
            | some z =>
              obtain ⟨q1, q2⟩ := (hiff z).1 hq
              rw [hj, hlr] at q1
              cases q1
              exact absurd hn q2
          rw [hnone]
          exact (hself _ (hr.chk b hb) hn hv).symm
        · rw [(hiff _).2 ⟨by rw [hj, hlr], hn⟩]
      | none =>
        have hnone : lookup (composed s r) t.name = none := by
          cases hq : lookup (composed s r) t.name with
          | none => rfl
          | some z =>
            obtain ⟨q1, _⟩ := (hiff z).1 hq
            rw [hj, hlr] at q1
            cases q1
        rw [hnone]
  · rw [Tm.on_knot (.inr ha), Tm.on_knot (s := s) (.inr ha), Tm.on_knot (s := r) (.inr (by rw [Tm.args_mk]; simpa using ha))]
    simp only [Tm.name_mk, Tm.args_mk, List.map_map]
    congr 1
    exact List.map_congr_left fun a h => ih _ (Tm.lt_of_arg h) (c2 a h) rfl
theorem ordered_ext : ∀ {l m : List Bd}, Ordered l → Ordered m → (∀ b, b ∈ l ↔ b ∈ m) → l = m
  | [], [], _, _, _ => rfl
  | [], c :: m, _, _, h => absurd ((h c).2 (by simp)) (by simp)
  | a :: l, [], _, _, h => absurd ((h a).1 (by simp)) (by simp)
  | a :: l, c :: m, hl, hm, h => by
    obtain ⟨l1, l2⟩ := List.pairwise_cons.1 hl
    obtain ⟨m1, m2⟩ := List.pairwise_cons.1 hm
    have e : a = c := by
      rcases List.mem_cons.1 ((h a).1 (by simp)) with e | e
      · exact e
      · rcases List.mem_cons.1 ((h c).2 (by simp)) with e2 | e2
        · exact e2.symm
        · have := sLt_trans (m1 a e) (l1 c e2)
          rw [sLt_irrefl] at this
          cases this
    subst e
    rw [ordered_ext l2 m2 fun b => ?_]
    have hb := h b
    simp only [List.mem_cons] at hb
    constructor
    · intro hbl
      rcases hb.1 (.inr hbl) with e | e
      · subst e
        have := l1 b hbl
        rw [sLt_irrefl] at this
        cases this
      · exact e
    · intro hbm
      rcases hb.2 (.inr hbm) with e | e
      · subst e
        have := m1 b hbm
        rw [sLt_irrefl] at this
        cases this
      · exact e
theorem leaf_chk {y : ByteArray} (h : nameOk y = true) : (leafT y).chk = 0 := by
  have h0 : chkOne (leafT y) = 0 := by
    unfold chkOne leafT
    rw [Tm.name_mk, if_pos h, if_neg (by simp [Tm.args_mk])]
  rw [Tm.chk_eq, if_pos h0]
  rfl
theorem composed_leaf {s r : List Bd} (hs : OkB s) (hr : OkB r) {y : ByteArray} {v : Tm} : (y, v) ∈ composed s r ↔ v = ((leafT y).on s).on r ∧ v.name ≠ y := by
  rw [← lookup_iff (composed_named hs hr), composed_iff hs hr, lookup_joined, on_leafT]
  refine and_congr_left fun hne => ?_
  cases hl : lookup s y with
  | some x => exact ⟨fun h => by cases h; rfl, fun h => by rw [h]; rfl⟩
  | none =>
    show lookup r y = some v ↔ v = (leafT y).on r
    rw [on_leafT]
    cases hlr : lookup r y with
    | some z => exact ⟨fun h => by cases h; rfl, fun h => by rw [h]; rfl⟩
    | none => exact ⟨fun h => by (cases h), fun h => absurd (by rw [h]; rfl) hne⟩
/-- Whichever two come first. -/
theorem composed_assoc {s r q : List Bd} (hs : OkB s) (hr : OkB r) (hq : OkB q) : composed (composed s r) q = composed s (composed r q) := by
  have h1 := composed_ok (composed_ok hs hr) hq
  have h2 := composed_ok hs (composed_ok hr hq)
  refine ordered_ext h1.ord h2.ord fun b => ?_
  obtain ⟨y, v⟩ := b
  have key : nameOk y = true → ((y, v) ∈ composed (composed s r) q ↔ (y, v) ∈ composed s (composed r q)) := fun hy => by
    rw [composed_leaf (composed_ok hs hr) hq, composed_leaf hs (composed_ok hr hq), on_composed hs hr (leaf_chk hy), on_composed hr hq (chk_sub hs.chk (leaf_chk hy))]
  exact ⟨fun h => (key (h1.nam _ h)).1 h, fun h => (key (h2.nam _ h)).2 h⟩
/-- Bindings that may be. -/
theorem bindsMay_ok {s : List Bd} (hs : OkB s) (hl : s.length ≤ 40) (hz : ∀ b ∈ s, b.2.size ≤ 200) : bindsMay s = 0 := by
  unfold bindsMay
  rw [if_neg (by omega)]
  have key : ∀ (p : Option ByteArray) (l : List Bd), Ordered l → (∀ q, p = some q → ∀ b ∈ l, sLt q b.1 = true) → (∀ b ∈ l, nameOk b.1 = true ∧ isVar b.1 = true ∧ b.2.may = 0) → bindsErr p l = 0 := by
    intro p l
    induction l generalizing p with
    | nil => intro _ _ _; rfl
    | cons b l ih =>
      intro ho hp hb
      obtain ⟨o1, o2⟩ := List.pairwise_cons.1 ho
      obtain ⟨b1, b2, b3⟩ := hb b (by simp)
      have he : bindErr p b = 0 := by
        unfold bindErr
        rw [if_pos ⟨b1, b2⟩, if_neg, b3]
        cases p with
        | none => simp
        | some q =>
          have := hp q rfl b (by simp)
          simp only [Option.any_some, ordBad, Bool.or_eq_true, decide_eq_true_eq, not_or]
          refine ⟨fun h => ?_, fun h => ?_⟩
          · rw [sLt_asymm this] at h; cases h
          · rw [h, sLt_irrefl] at this; cases this
      simp only [bindsErr]
      rw [if_pos he]
      exact ih (some b.1) o2 (fun q hq c hc => by cases hq; exact o1 c hc) fun c hc => hb c (by simp [hc])
  refine key none s hs.ord (by simp) fun b hb => ⟨hs.nam b hb, hs.var b hb, ?_⟩
  unfold Tm.may
  rw [if_neg (by have := hz b hb; omega)]
  exact hs.chk b hb
theorem nov_on {n : ByteArray} {xs : List Tm} {m : List Bd} (hn : isVar n = false) (hm : ∀ b ∈ m, isVar b.1 = true) : (Tm.mk n xs).on m = .mk n (xs.map (Tm.on m)) :=
  Tm.on_knot (t := .mk n xs) (.inl (lookup_none fun b hb e => by rw [Tm.name_mk] at e; have := hm b hb; rw [e, hn] at this; cases this))
end Go.Proofs.YtdmgelbbjppgkaaDoor
