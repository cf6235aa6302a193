/-
  Part 5 of the texts. Conditions: none.
-/
import Derived.Test.YtkjlddlllofenaaGreatDoorLoM4
namespace Go.Proofs.YtkjlddlllofenaaGreatDoor
open Go Go.RowKit
set_option linter.unusedVariables false
theorem guard_ite (c P Q : Prop) [Decidable c] : ((c → P) ∧ (¬ c → Q)) = if c then P else Q := by
 by_cases h : c <;> simp [h]
theorem ite_conj {c A B : Prop} [Decidable c] (h : (c → A) ∧ (¬ c → B)) : if c then A else B := by
 by_cases hc : c
 ·rw [if_pos hc]; exact h.1 hc
 ·rw [if_neg hc]; exact h.2 hc
theorem pick_ite (b : Bool) (P Q : Prop) : ((b = true → P) ∧ (b = false → Q)) = if b = true then P else Q := by
 cases b <;> simp
attribute [congr] CallK.congr CallSK.congr
mutual
def encT : Tm → List SV
 | .mk n xs => [.str n, .list (encTs xs)]
def encTs : List Tm → List (List SV)
 | [] => []
 | t :: ts => encT t :: encTs ts
end
theorem encTs_eq : ∀ xs : List Tm, encTs xs = xs.map encT
 | [] => rfl
 | t :: ts => by rw [encTs, encTs_eq ts]; rfl
theorem encT_eq (t : Tm) : encT t = [.str t.name, .list (t.args.map encT)] := by
 cases t
 rw [encT, encTs_eq]
 rfl
theorem len_encT (t : Tm) : (encT t).length = 2 := by rw [encT_eq]; rfl
class Lens {α : Type} (f : α → List SV) (n : outParam Nat) : Prop where
 ok : ∀ a, (f a).length = n
theorem lens {α : Type} {f : α → List SV} {n : Nat} [h : Lens f n] {ts : List α} : ∀ x ∈ ts.map f, x.length = n := fun x hx => by
 obtain ⟨a, _, rfl⟩ := List.mem_map.1 hx
 exact h.ok a
instance : Lens encT 2 := ⟨fun t => by rw [encT_eq]; rfl⟩
theorem lens_encT {ts : List Tm} : ∀ x ∈ ts.map encT, x.length = 2 := by
 intro x hx
 obtain ⟨a, _, rfl⟩ := List.mem_map.1 hx
 exact len_encT a
theorem Tm.args_mk (n : ByteArray) (xs : List Tm) : (Tm.mk n xs).args = xs := rfl
theorem Tm.name_mk (n : ByteArray) (xs : List Tm) : (Tm.mk n xs).name = n := rfl
abbrev aInt (n : Int) : AV := .one (.st (.int .i64 n))
abbrev aBool (b : Bool) : AV := .one (.st (.bool b))
abbrev aStr (s : ByteArray) : AV := .one (.st (.str s))
abbrev aTm (t : Tm) : AV := .agg [.st (.str t.name), .st (.list (t.args.map encT))]
abbrev encI (n : Int) : List SV := [.int .i64 n]
abbrev encS (s : ByteArray) : List SV := [.str s]
abbrev aInts (l : List Int) : AV := .one (.st (.list (l.map encI)))
abbrev aStrs (l : List ByteArray) : AV := .one (.st (.list (l.map encS)))
abbrev aTms (l : List Tm) : AV := .one (.st (.list (l.map encT)))
theorem get_lt {α : Type} {xs : List α} {k : Nat} (h : k < xs.length) : ∃ a, xs[k]? = some a := ⟨xs[k], List.getElem?_eq_getElem h⟩
theorem inR_i64 (n : Int) : inR .i64 n ↔ -9223372036854775808 ≤ n ∧ n ≤ 9223372036854775807 := by
 simp [inR, IntKind.min, IntKind.max, IntKind.signed, IntKind.bits]
theorem known_ints {l : List Int} (h : (SV.list (l.map encI)).known) : l.length ≤ maxLen ∧ ∀ n ∈ l, inR .i64 n := by
 obtain ⟨h1, h2⟩ := h
 refine ⟨by simpa using h1, fun n hn => ?_⟩
 have := knownL_iff.1 (knownLL_iff.1 h2 (encI n) (List.mem_map.2 ⟨n, hn, rfl⟩)) (.int .i64 n) (by simp)
 exact this
theorem maxLen_eq : maxLen = 9223372036854775807 := by simp [maxLen]
theorem known_len {S : AStore} {xs : List (List SV)} (h : (AV.one (.st (.list xs))).known S) : xs.length ≤ 9223372036854775807 := by
 simp only [AV.known, AC.known, SV.known] at h
 rw [maxLen_eq] at h
 exact h.1
theorem known_tm {S : AStore} {t : Tm} (h : (aTm t).known S) : t.name.size ≤ 9223372036854775807 ∧ t.args.length ≤ 9223372036854775807 := by
 have h1 : t.name.size ≤ maxLen := by
  have := h (.st (.str t.name)) (by simp)
  simpa [AC.known, SV.known] using this
 have h2 : t.args.length ≤ maxLen := by
  have := h (.st (.list (t.args.map encT))) (by simp)
  simp only [AC.known, SV.known, List.length_map] at this
  exact this.1
 rw [maxLen_eq] at h1 h2
 exact ⟨h1, h2⟩

def Kd.isCall : Kd → Bool
 | .call _ _ => true
 | .callS _ _ => true
 | .callV _ _ => true
 | .callN _ _ => true
 | .callR _ _ => true
 | .callW _ _ => true
 | .buildFlat _ => false
 | .cutP _ _ _ => false
 | .indexP _ _ _ => false
 | .appP _ _ _ _ _ => false
 | .restP _ _ _ => false
 | .appS _ _ _ => false
 | .loadL _ _ _ => false
 | .indexL _ _ _ => false
 | .buildL _ _ => false
 | .fieldL _ _ => false
 | .lenL _ _ => false
 | .appF _ _ _ _ _ _ => false
 | .clearP _ _ _ _ => false
 | .mov _ => false
 | .pick _ _ _ => false
 | .alloc _ _ => false
 | .box _ _ => false
 | .build _ _ => false
 | .buildSlice _ _ _ _ => false
 | .load _ _ _ => false
 | .store _ _ _ => false
 | .fieldAddr _ _ => false
 | .field _ _ _ _ => false
 | .indexAddr _ _ _ => false
 | .indexArr _ _ _ _ => false
 | .indexStr _ _ => false
 | .bin _ _ _ => false
 | .eqB _ _ _ => false
 | .eqN _ _ => false
 | .eqE _ _ => false
 | .never => false
 | .pan _ => false
 | .iface _ _ => false
 | .strOf _ => false
 | .un _ _ => false
 | .sliceS _ _ _ => false
 | .sliceL _ _ _ _ => false
 | .sliceM _ _ _ _ => false
 | .extract _ _ => false
 | .len _ _ => false
 | .append _ _ _ _ _ _ => false
 | .conv _ _ => false
 | .nilCheck _ => false
 | .mm _ _ _ => false
 | .makeSlice _ _ _ _ _ _ => false
 | .makeFunc _ _ => false
 | .makeMap _ => false
 | .lookup _ _ _ _ _ => false
 | .mapSet _ _ _ _ => false
 | .mapEntry _ _ _ _ => false
 | .entrySet _ _ _ => false
 | .rangeM _ => false
 | .next _ => false
 | .entry _ => false
 | .lenM _ => false
 | .buildArr _ => false
 | .makeMemo => false
 | .memoGet _ _ _ _ => false
 | .memoSet _ _ _ => false
inductive CallG (P : Program) (f : FuncId) (vs : List AV) (d : Option Nat) (l : List Ins) (s : AS) (K : AS → Prop) : Prop
 | mk (r : AV) (h1 : ACalls P f vs r) (h2 : Run P l (s.put d r) K)
inductive CallSG (P : Program) (f : FuncId) (vs : List AV) (S : AStore) (ks : List Nat) (d : Option Nat) (l : List Ins) (env : Nat → AV) (K : AS → Prop) : Prop
 | mk (r : AV) (S' : AStore) (h1 : ACallsS P f vs (upS S) r S') (h2 : (∀ k ∈ ks, dnS S' k = S k) ∧ Run P l ((⟨env, dnS S'⟩ : AS).put d (r.ren dn1)) K)
inductive CallNG (P : Program) (f : FuncId) (vs : List AV) (ks : List Nat) (d : Option Nat) (l : List Ins) (s : AS) (K : AS → Prop) : Prop
 | mk (mu : Bool) (e : TypeId) (w : Nat) (ys : List (List SV)) (h1 : ACallsN P f vs e w ys mu) (h2 : s.S (d.getD 0) = none ∧ (∀ k ∈ ks, (s.set (d.getD 0) (rowB mu e w ys)).S k = s.S k) ∧ Run P l ((s.set (d.getD 0) (rowB mu e w ys)).put d (.one (.row (d.getD 0) ys.length))) K)
inductive CallRG (P : Program) (f : FuncId) (vs : List AV) (d : Option Nat) (l : List Ins) (s : AS) (K : AS → Prop) : Prop
 | mk (r : AV) (rows : List (Nat × ABlk)) (h0 : ∀ q ∈ rows, s.S q.1 = some q.2) (h1 : ∀ T : AStore, (∀ q ∈ rows, T q.1 = some q.2) → ACallsS P f vs (upS T) r (upS T)) (h2 : Run P l (s.put d (r.ren dn1)) K)
inductive CallWG (P : Program) (f : FuncId) (vs : List AV) (ks : List Nat) (d : Option Nat) (l : List Ins) (s : AS) (K : AS → Prop) : Prop
 | mk (r : AV) (rows : List (Nat × ABlk × ABlk)) (h0 : holdS s.S rows) (h1 : ∀ T : AStore, holdS T rows → ACallsS P f vs (upS T) r (upS (turnS T rows))) (h2 : (∀ k ∈ ks, turnS s.S rows k = s.S k) ∧ Run P l ((⟨s.env, turnS s.S rows⟩ : AS).put d (r.ren dn1)) K)
theorem hold_one {S : AStore} {i : Nat} {b c : ABlk} (h : S i = some b) : holdS S [(i, b, c)] := fun q hq => by rw [List.mem_singleton.1 hq]; exact h
theorem hold_at {S : AStore} {i : Nat} {b c : ABlk} (h : holdS S [(i, b, c)]) : S i = some b := h _ (List.mem_singleton.2 rfl)
theorem rows_one {S : AStore} {i : Nat} {b : ABlk} (h : S i = some b) : ∀ q ∈ [(i, b)], S q.1 = some q.2 := fun q hq => by rw [List.mem_singleton.1 hq]; exact h
def Kd.goC (P : Program) (d : Option Nat) (s : AS) (t : Tag) (l : List Ins) (K : AS → Prop) : Kd → Prop
 | .call f xs => match t with
  | .no => match outVs s.S (s.evs xs) with
   | some vs => CallG P f vs d l s K
   | none => False
  | _ => False
 | .callR f xs => match t with
  | .no => CallRG P f (AV.rens up1 (s.evs xs)) d l s K
  | _ => False
 | .callW f xs => match t with
  | .no => CallWG P f (AV.rens up1 (s.evs xs)) [] d l s K
  | .keeps ks => CallWG P f (AV.rens up1 (s.evs xs)) ks d l s K
  | .onb _ => False
 | .callN f xs => match t with
  | .no => match outVs s.S (s.evs xs) with
   | some vs => CallNG P f vs [] d l s K
   | none => False
  | .keeps ks => match outVs s.S (s.evs xs) with
   | some vs => CallNG P f vs ks d l s K
   | none => False
  | .onb _ => False
 | .callS f xs => match t with
  | .no => CallSG P f (AV.rens up1 (s.evs xs)) s.S [] d l s.env K
  | .keeps ks => CallSG P f (AV.rens up1 (s.evs xs)) s.S ks d l s.env K
  | .onb _ => False
 | .callV f xs => match s.ev f with
  | .one (.fn g caps) => plainF P g = true ∧ match t with
   | .no => CallSG P g (AV.rens up1 (s.evs xs ++ caps.map .one)) s.S [] d l s.env K
   | .keeps ks => CallSG P g (AV.rens up1 (s.evs xs ++ caps.map .one)) s.S ks d l s.env K
   | .onb _ => False
  | _ => False
 | _ => False
def Run2 (P : Program) : List Ins → AS → (AS → Prop) → Prop
 | [], s, K => K s
 | i :: l, s, K => match i.kd.isCall with
  | false => match i.guard with
   | none => i.kd.goT P (i.dst.getD 0) s i.tag fun v s' => Run2 P l (s'.put i.dst v) K
   | some (g, want) => match s.env g with
    | .one (.st (.bool b)) => (b = want → i.kd.goT P (i.dst.getD 0) s i.tag fun v s' => Run2 P l (s'.put i.dst v) K) ∧ (¬ b = want → Run2 P l (s.put i.dst (.tup [])) K)
    | .tup [] => Run2 P l (s.put i.dst (.tup [])) K
    | _ => False
  | true => match i.guard with
   | none => i.kd.goC P i.dst s i.tag l K
   | some (g, want) => match s.env g with
    | .one (.st (.bool b)) => (b = want → i.kd.goC P i.dst s i.tag l K) ∧ (¬ b = want → Run2 P l (s.put i.dst (.tup [])) K)
    | .tup [] => Run2 P l (s.put i.dst (.tup [])) K
    | _ => False
section
variable {P : Program}
theorem goC_run {kd : Kd} {d : Option Nat} {s : AS} {t : Tag} {l : List Ins} {K : AS → Prop} (h : kd.goC P d s t l K) : kd.goT P (d.getD 0) s t fun v s' => Run P l (s'.put d v) K := by
 cases kd <;> simp only [Kd.goC] at h
 case call f xs =>
  cases t <;> simp only at h
  split at h
  ·rename_i vs e
   obtain ⟨r, h1, h2⟩ := h
   simp only [Kd.goT, Kd.go, e]
   exact ⟨r, h1, trivial, h2⟩
  ·exact h.elim
 case callN f xs =>
  cases t <;> simp only at h
  ·split at h
   ·rename_i vs e
    obtain ⟨mu, ty, w, ys, h1, h2, _, h3⟩ := h
    simp only [Kd.goT, Kd.go, e]
    exact ⟨mu, ty, w, ys, h1, h2, trivial, h3⟩
   ·exact h.elim
  ·split at h
   ·rename_i vs e
    obtain ⟨mu, ty, w, ys, h1, h2, h4, h3⟩ := h
    simp only [Kd.goT, Kd.go, e]
    exact ⟨mu, ty, w, ys, h1, h2, h4, h3⟩
   ·exact h.elim
 case callW f xs =>
  cases t <;> simp only at h
  ·obtain ⟨r, rows, h0, h1, _, h2⟩ := h
   simp only [Kd.goT, Kd.go]
   exact ⟨r, rows, h0, h1, trivial, h2⟩
  ·obtain ⟨r, rows, h0, h1, hk, h2⟩ := h
   simp only [Kd.goT, Kd.go]
   exact ⟨r, rows, h0, h1, hk, h2⟩
 case callR f xs =>
  cases t <;> simp only at h
  obtain ⟨r, rows, h0, h1, h2⟩ := h
  simp only [Kd.goT, Kd.go]
  exact ⟨r, rows, h0, h1, trivial, h2⟩
 case callS f xs =>
  cases t <;> simp only at h
  ·obtain ⟨r, S', h1, h2, h3⟩ := h
   exact ⟨r, S', h1, trivial, h3⟩
  ·obtain ⟨r, S', h1, h2, h3⟩ := h
   exact ⟨r, S', h1, h2, h3⟩
 case callV f xs =>
  split at h
  ·rename_i g caps e
   obtain ⟨hp, h⟩ := h
   cases t <;> simp only at h
   ·obtain ⟨r, S', h1, h2, h3⟩ := h
    simp only [Kd.goT, Kd.go, e]
    exact ⟨hp, r, S', h1, trivial, h3⟩
   ·obtain ⟨r, S', h1, h2, h3⟩ := h
    simp only [Kd.goT, Kd.go, e]
    exact ⟨hp, r, S', h1, h2, h3⟩
  ·exact h.elim
theorem run2_run : ∀ {l : List Ins} {s : AS} {K : AS → Prop}, Run2 P l s K → Run P l s K
 | [], s, K, h => h
 | i :: l, s, K, h => by
  unfold Run2 at h
  unfold Run
  split at h
  ·split at h
   ·rename_i e
    simp only [e]
    exact goT_mono h fun v s' _ h' => run2_run h'
   ·rename_i g want e
    simp only [e]
    split at h
    ·rename_i b e2
     simp only [e2]
     exact ⟨fun hb => goT_mono (h.1 hb) fun v s' _ h' => run2_run h', fun hb => run2_run (h.2 hb)⟩
    ·rename_i e2
     simp only [e2]
     exact run2_run h
    ·exact h.elim
  ·split at h
   ·rename_i e
    simp only [e]
    exact goC_run h
   ·rename_i g want e
    simp only [e]
    split at h
    ·rename_i b e2
     simp only [e2]
     exact ⟨fun hb => goC_run (h.1 hb), fun hb => run2_run (h.2 hb)⟩
    ·rename_i e2
     simp only [e2]
     exact run2_run h
    ·exact h.elim
theorem keep_run2 {l : List Ins} {s : AS} {K : AS → Prop} {A : Prop} (h : A ∧ Run2 P l s K) : A ∧ Run P l s K := ⟨h.1, run2_run h.2⟩
theorem IWP.ops2 {C : Ctx} {mu : List Nat} {Q : AX → AS → Prop} {s : AS} {l : List Ins} (h : ∀ K : AS → Prop, (∀ s, Q .normal s → K s) → Run2 P l s K) : IWP P C mu (.ops l) Q s := IWP.opsK fun K hK => run2_run (h K hK)
end
attribute [go_sem] Ins.i Ins.m Ins.L Ins.l Ins.f Ins.s Opd.n rowB turnS Run2 Kd.isCall Kd.goC Kd.goT Tag.ok Kd.ptrOpd ptrIs List.forall_mem_cons List.not_mem_nil Kd.go AS.ev AS.evs AS.put AS.set updE AV.cells fills elems elemsP stP stPs stC stCs outC outCs outV outVs flats blkCells idxK listOf cutOf lenOfA binI binS optI pack splice ABlk.len AS.start AS.startS noS List.getElem?_cons_zero List.getElem?_cons_succ List.getElem?_nil List.getElem?_map Option.isSome_none Option.isSome_some Option.map_some Option.map_none Option.getD_some Option.getD_none List.length_map List.length_cons List.length_nil List.length_append List.map_cons List.map_nil List.take_succ_cons List.take_zero List.take_nil List.drop_succ_cons List.drop_zero List.drop_nil List.nil_append List.cons_append List.append_nil Nat.zero_add Nat.add_zero Nat.le_refl Nat.zero_le if_true if_false Bool.false_eq_true true_and and_true Option.some.injEq Int.toNat_natCast Int.natCast_nonneg Int.ofNat_eq_natCast ite_self decide_true decide_false not_true_eq_false not_false_eq_true true_implies false_implies implies_true Bool.true_eq_false eq_self Bool.not_true Bool.not_false beq_self_eq_true Tm.args_mk Tm.name_mk AV.rens AV.ren AC.ren AC.rens ABlk.ren upS_up dn_up dnS_upd dn_upS
theorem upS_set (T : AStore) (i : Nat) (b : ABlk) : upS (updE T i (some b)) = updE (upS T) (up1 i) (some (b.ren up1)) := by
 funext k
 show (if k < 1000 then none else (updE T i (some b) (k - 1000)).map (ABlk.ren up1)) = _
 by_cases e : k = up1 i
 ·subst e
  rw [updE_same, if_neg (by have := up1_le i; omega), show up1 i - 1000 = i from dn_up i, updE_same]
  rfl
 ·rw [updE_ne _ e]
  by_cases hk : k < 1000
  ·rw [if_pos hk]
   show none = if k < 1000 then none else _
   rw [if_pos hk]
  ·rw [if_neg hk, updE_ne _ (fun h => e (by rw [← h]; exact (up_dn (by omega)).symm))]
   show _ = if k < 1000 then none else _
   rw [if_neg hk]
abbrev Wa := @IWP.seq
abbrev Wb := @seqQ_normal
abbrev Wc := @IWP.block
abbrev Wd := @IWP.skip
abbrev We := @IWP.exit
abbrev Wg := @seqQ_exit
abbrev Wh := @seqQ_ret
abbrev Wi := @inBlock_normal
abbrev Wj := @inBlock_here
abbrev Wk := @inBlock_away
abbrev Wl := @inBlock_ret
abbrev Wm := @then_exit
abbrev Wn := @then_ret
abbrev Wo := @IWP.ops2
abbrev Wp := @IWP.cond
abbrev Wq := @run2_run
abbrev Wr := @keep_run2
abbrev iC := @ite_conj
abbrev Cg := @CallG.mk
abbrev dT := @decide_eq_true_eq
abbrev dF := @decide_eq_false_iff_not
abbrev nL := @Int.ofNat_lt
abbrev eT := @encT_eq
abbrev iR := @inR_i64
attribute [go_sem ↓] guard_ite pick_ite
theorem Ai {a b : Prop} (k : b) (h : a := by first | omega | exact lens | (simp [maxLen_eq] <;> omega)) : a ∧ b := ⟨h, k⟩
theorem Z0 {id id' : Nat} {Q : AX → AS → Prop} {s : AS} (h : Q (.exit id') s) (hne : id' ≠ id := by decide) : AX.inBlock id Q (.exit id') s := inBlock_away hne h
theorem fN {α : Type} (p : α → Prop) : ∀ x ∈ ([] : List α), p x := List.forall_mem_nil p
class Step (goal : Prop) (prev : outParam Prop) : Prop where
 imp : prev → goal
theorem W {goal prev : Prop} [s : Step goal prev] (h : prev) : goal := s.imp h
section
variable {P : Program} {C : Ctx} {mu : List Nat} {x y : IR} {Q : AX → AS → Prop} {s : AS} {id : Nat} {K : AS → Prop}
instance : Step (IWP P C mu (.seq x y) Q s) (IWP P C mu x (seqQ P C mu y Q) s) := ⟨IWP.seq⟩
instance : Step (seqQ P C mu y Q .normal s) (IWP P C mu y Q s) := ⟨seqQ_normal⟩
instance : Step (IWP P C mu (.block id x) Q s) (IWP P C mu x (AX.inBlock id Q) s) := ⟨IWP.block⟩
instance : Step (IWP P C mu .skip Q s) (Q .normal s) := ⟨IWP.skip⟩
instance : Step (IWP P C mu (.exit id) Q s) (Q (.exit id) s) := ⟨IWP.exit⟩
instance : Step (IWP P C mu .ret Q s) (Q .ret s) := ⟨IWP.ret⟩
instance : Step (seqQ P C mu y Q (.exit id) s) (Q (.exit id) s) := ⟨seqQ_exit⟩
instance : Step (seqQ P C mu y Q .ret s) (Q .ret s) := ⟨seqQ_ret⟩
instance : Step (AX.inBlock id Q .normal s) (Q .normal s) := ⟨inBlock_normal⟩
instance : Step (AX.inBlock id Q (.exit id) s) (Q .normal s) := ⟨inBlock_here⟩
instance : Step (AX.inBlock id Q .ret s) (Q .ret s) := ⟨inBlock_ret⟩
instance : Step (AX.then K Q (.exit id) s) (Q (.exit id) s) := ⟨then_exit⟩
instance : Step (AX.then K Q .ret s) (Q .ret s) := ⟨then_ret⟩
class StepC (goal : Prop) (prev : outParam Prop) : Prop where
 imp : prev → goal
class StepB (goal : Prop) (prev : outParam Prop) : Prop where
 imp : prev → goal
theorem U {goal prev : Prop} [s : StepC goal prev] (h : prev) : goal := s.imp h
theorem V {goal prev : Prop} [s : StepB goal prev] (h : prev) : goal := s.imp h
instance {l : List Ins} : StepC (Run P l s K) (Run2 P l s K) := ⟨run2_run⟩
instance {l : List Ins} {A : Prop} : StepC (A ∧ Run P l s K) (A ∧ Run2 P l s K) := ⟨keep_run2⟩
instance {l : List Ins} : StepB (Run P l s K) (Run2 P l s K) := ⟨run2_run⟩
instance {l : List Ins} {A : Prop} : StepB (A ∧ Run P l s K) (A ∧ Run2 P l s K) := ⟨keep_run2⟩
instance {c0 : Opd} : StepB (IWP P C mu (.cond c0 x y) Q s) (match s.ev c0 with | .one (.st (.bool b)) => (b = true → IWP P C mu x Q s) ∧ (b = false → IWP P C mu y Q s) | .one .ubool => IWP P C mu x Q s ∧ IWP P C mu y Q s | _ => False) := ⟨IWP.cond⟩
end
theorem IWP.fresh {P : Program} {C : Ctx} {mu : List Nat} {x : IR} {Q : AX → AS → Prop} {s : AS} (h1000 : ∀ i, 1000 ≤ i → s.S i = none) (h : ∀ env' : Nat → AV, (∀ i v, s.env i = .one (.st v) → env' i = .one (.st v)) → IWP P C mu x Q ⟨env', noS⟩) : IWP P C mu x Q s := by
 refine IWP.ghost (Ghost.low (s := s) fun i b hi hb => by rw [h1000 i hi] at hb; cases hb) ?_
 have e : lowS s.S = noS := by
  funext i
  show (if i < 1000 then none else s.S i) = none
  split
  ·rfl
  ·exact h1000 i (by omega)
 rw [e]
 exact h _ fun i v hv => by rw [hv]; rfl
theorem IWP.mid {P : Program} {C : Ctx} {mu : List Nat} {x y : IR} {Q : AX → AS → Prop} {s : AS} (M : AS → Prop) (h1 : IWP P C mu x (fun e s => e = .normal ∧ M s) s) (h2 : ∀ s, M s → IWP P C mu y Q s) : IWP P C mu (x.seq y) Q s :=
 IWP.seq (h1.mono fun e s ⟨he, hm⟩ => by subst he; exact seqQ_normal (h2 s hm))
theorem once {R G : Prop} (f : R → G) (h : R) : G := f h



inductive Lm where
 | mk (kind idx : Int) (subs : List Lm)
def Lm.kind : Lm → Int | .mk k _ _ => k
def Lm.idx : Lm → Int | .mk _ i _ => i
def Lm.subs : Lm → List Lm | .mk _ _ xs => xs
theorem Lm.kind_mk (k i : Int) (xs : List Lm) : (Lm.mk k i xs).kind = k := rfl
theorem Lm.idx_mk (k i : Int) (xs : List Lm) : (Lm.mk k i xs).idx = i := rfl
theorem Lm.subs_mk (k i : Int) (xs : List Lm) : (Lm.mk k i xs).subs = xs := rfl
theorem Lm.eta (t : Lm) : Lm.mk t.kind t.idx t.subs = t := by cases t; rfl
mutual
def encL : Lm → List SV
 | .mk k i xs => [.int .i64 k, .int .i64 i, .list (encLs xs)]
def encLs : List Lm → List (List SV)
 | [] => []
 | t :: ts => encL t :: encLs ts
end
theorem encLs_eq : ∀ xs : List Lm, encLs xs = xs.map encL
 | [] => rfl
 | t :: ts => by rw [encLs, encLs_eq ts]; rfl
theorem encL_eq (t : Lm) : encL t = [.int .i64 t.kind, .int .i64 t.idx, .list (t.subs.map encL)] := by
 cases t
 rw [encL, encLs_eq]
 rfl
theorem len_encL (t : Lm) : (encL t).length = 3 := by rw [encL_eq]; rfl
instance : Lens encL 3 := ⟨len_encL⟩
theorem lens_encL {ts : List Lm} : ∀ x ∈ ts.map encL, x.length = 3 := by
 intro x hx
 obtain ⟨a, _, rfl⟩ := List.mem_map.1 hx
 exact len_encL a
abbrev aLm (t : Lm) : AV := .agg [.st (.int .i64 t.kind), .st (.int .i64 t.idx), .st (.list (t.subs.map encL))]
abbrev aLms (l : List Lm) : AV := .one (.st (.list (l.map encL)))
theorem known_lm {S : AStore} {t : Lm} (h : (aLm t).known S) : (-9223372036854775808 ≤ t.kind ∧ t.kind ≤ 9223372036854775807) ∧ (-9223372036854775808 ≤ t.idx ∧ t.idx ≤ 9223372036854775807) ∧ t.subs.length ≤ 9223372036854775807 := by
 have h1 : inR .i64 t.kind := by
  have := h (.st (.int .i64 t.kind)) (by simp)
  simpa [AC.known, SV.known] using this
 have h2 : inR .i64 t.idx := by
  have := h (.st (.int .i64 t.idx)) (by simp)
  simpa [AC.known, SV.known] using this
 have h3 : t.subs.length ≤ maxLen := by
  have := h (.st (.list (t.subs.map encL))) (by simp)
  simp only [AC.known, SV.known, List.length_map] at this
  exact this.1
 rw [inR_i64] at h1 h2
 rw [maxLen_eq] at h3
 exact ⟨h1, h2, h3⟩
theorem Lm.lt_of_mem {a : Lm} {k i : Int} {xs : List Lm} (h : a ∈ xs) : SizeOf.sizeOf a < SizeOf.sizeOf (Lm.mk k i xs) := by
 have := List.sizeOf_lt_of_mem h
 simp only [Lm.mk.sizeOf_spec]
 omega
theorem Lm.lt_of_sub {a t : Lm} (h : a ∈ t.subs) : SizeOf.sizeOf a < SizeOf.sizeOf t := by
 cases t
 exact Lm.lt_of_mem h
attribute [go_sem] Lm.kind_mk Lm.idx_mk Lm.subs_mk encL_eq
mutual
def Lm.size : Lm → Nat
 | .mk _ _ xs => 1 + Lm.sizes xs
def Lm.sizes : List Lm → Nat
 | [] => 0
 | t :: ts => t.size + Lm.sizes ts
end
theorem Lm.sizes_append (xs ys : List Lm) : Lm.sizes (xs ++ ys) = Lm.sizes xs + Lm.sizes ys := by
 induction xs with
 | nil => simp [Lm.sizes]
 | cons t ts ih => simp only [List.cons_append, Lm.sizes, ih]; omega
theorem Lm.sizes_take {xs : List Lm} {k : Nat} {a : Lm} (h : xs[k]? = some a) : Lm.sizes (xs.take (k+1)) = Lm.sizes (xs.take k) + a.size := by
 rw [take_snoc h, Lm.sizes_append]; simp [Lm.sizes]
theorem Lm.sizes_take_le (xs : List Lm) (k : Nat)  : Lm.sizes (xs.take k) ≤ Lm.sizes xs := by
 have := Lm.sizes_append (xs.take k) (xs.drop k)
 rw [List.take_append_drop] at this
 omega
theorem Lm.size_eq (t : Lm) : t.size = 1 + Lm.sizes t.subs := by cases t; rfl
theorem Lm.size_pos (t : Lm) : 1 ≤ t.size := by rw [Lm.size_eq]; omega
theorem Lm.size_mem {a : Lm} {xs : List Lm} (h : a ∈ xs) : a.size ≤ Lm.sizes xs := by
 induction xs with
 | nil => simp at h
 | cons t ts ih =>
  rcases List.mem_cons.1 h with rfl | h
  ·simp only [Lm.sizes]; omega
  ·have := ih h; simp only [Lm.sizes]; omega
theorem Lm.size_sub {a t : Lm} (h : a ∈ t.subs) : a.size + 1 ≤ t.size := by
 have := Lm.size_mem h
 rw [Lm.size_eq t]
 omega
theorem Lm.length_le (xs : List Lm) : xs.length ≤ Lm.sizes xs := by
 induction xs with
 | nil => simp [Lm.sizes]
 | cons t ts ih => have := Lm.size_pos t; simp only [Lm.sizes, List.length_cons]; omega
def nSubs (k : Int) : Int := if k = 2 then 1 else if k = 3 then 2 else 0
def mostIdx (k u m : Int) : Int := if k = 1 then u else if k = 4 then 40 else if k = 5 then m else 1
def under (k u : Int) : Int := if k = 2 then u + 1 else u
mutual
def Lm.chk (m : Int) : Lm → Int → Int
 | .mk k i xs, u => if 1 ≤ k ∧ k ≤ 5 ∧ (xs.length : Int) = nSubs k then (if 0 ≤ i ∧ i < mostIdx k u m then Lm.chks m xs (under k u) else 15) else 2
def Lm.chks (m : Int) : List Lm → Int → Int
 | [], _ => 0
 | t :: ts, u => if t.chk m u = 0 then Lm.chks m ts u else t.chk m u
end
theorem Lm.chk_eq (m : Int) (t : Lm) (u : Int) : t.chk m u = if 1 ≤ t.kind ∧ t.kind ≤ 5 ∧ (t.subs.length : Int) = nSubs t.kind then (if 0 ≤ t.idx ∧ t.idx < mostIdx t.kind u m then Lm.chks m t.subs (under t.kind u) else 15) else 2 := by cases t; rfl
theorem Lm.chks_append (m u : Int) (xs ys : List Lm) : Lm.chks m (xs ++ ys) u = if Lm.chks m xs u = 0 then Lm.chks m ys u else Lm.chks m xs u := by
 induction xs with
 | nil => simp [Lm.chks]
 | cons t ts ih =>
  simp only [List.cons_append, Lm.chks]
  by_cases h : t.chk m u = 0
  ·simp only [h, if_true, ih]
  ·simp only [h, if_false]
theorem Lm.chks_take {m u : Int} {xs : List Lm} {k : Nat} {a : Lm} (h : xs[k]? = some a) (h0 : Lm.chks m (xs.take k) u = 0) : Lm.chks m (xs.take (k+1)) u = a.chk m u := by
 rw [take_snoc h, Lm.chks_append, if_pos h0]
 simp only [Lm.chks]
 split <;> simp_all
theorem Lm.chks_bad {m u : Int} {xs : List Lm} {k : Nat} (h0 : Lm.chks m (xs.take k) u ≠ 0) : Lm.chks m xs u = Lm.chks m (xs.take k) u := by
 have := Lm.chks_append m u (xs.take k) (xs.drop k)
 rw [List.take_append_drop, if_neg h0] at this
 exact this
mutual
def Lm.good (b : Int) : Lm → Prop
 | .mk k i xs => (k = 1 → xs = []) ∧ 0 ≤ i ∧ i ≤ b ∧ Lm.goods b xs
def Lm.goods (b : Int) : List Lm → Prop
 | [] => True
 | t :: ts => t.good b ∧ Lm.goods b ts
end
theorem Lm.good_eq (b : Int) (t : Lm) : t.good b ↔ ((t.kind = 1 → t.subs = []) ∧ 0 ≤ t.idx ∧ t.idx ≤ b ∧ Lm.goods b t.subs) := by cases t; exact Iff.rfl
theorem Lm.goods_mem {b : Int} {xs : List Lm} (h : Lm.goods b xs) : ∀ t ∈ xs, t.good b := by
 induction xs with
 | nil => intro t ht; simp at ht
 | cons x xs ih =>
  intro t ht
  rcases List.mem_cons.1 ht with rfl | ht
  ·exact h.1
  ·exact ih h.2 t ht
theorem Lm.good_sub {b : Int} {t a : Lm} (h : t.good b) (ha : a ∈ t.subs) : a.good b := Lm.goods_mem ((Lm.good_eq b t).1 h).2.2.2 a ha
mutual
theorem Lm.good_chk {m : Int} (h1 : m ≤ 40) : ∀ (t : Lm) (u b : Int), 0 ≤ u → u + t.size ≤ b → 40 ≤ b → t.chk m u = 0 → t.good b
 | .mk k i xs, u, b, hu, hb, hb4, h => by
  rw [Lm.chk] at h
  rw [Lm.size] at hb
  split at h
  ·rename_i hk
   split at h
   ·rename_i hi
    refine ⟨fun e => ?_, hi.1, ?_, ?_⟩
    ·subst e
     have := hk.2.2
     simp [nSubs] at this
     exact this
    ·have := hi.2
     simp only [mostIdx] at this
     split at this
     ·omega
     ·split at this
      ·omega
      ·split at this <;> omega
    ·have hu2 : under k u ≤ u + 1 ∧ 0 ≤ under k u := by unfold under; split <;> omega
     exact Lm.goods_chk h1 xs (under k u) b hu2.2 (by omega) hb4 h
   ·omega
  ·omega
theorem Lm.goods_chk {m : Int} (h1 : m ≤ 40) : ∀ (xs : List Lm) (u b : Int), 0 ≤ u → u + Lm.sizes xs ≤ b → 40 ≤ b → Lm.chks m xs u = 0 → Lm.goods b xs
 | [], _, _, _, _, _, _ => trivial
 | t :: ts, u, b, hu, hb, hb4, h => by
  rw [Lm.chks] at h
  rw [Lm.sizes] at hb
  split at h
  ·rename_i e
   exact ⟨Lm.good_chk h1 t u b hu (by omega) hb4 e, Lm.goods_chk h1 ts u b hu (by omega) hb4 h⟩
  ·rename_i e
   exact absurd h e
end
mutual
def Lm.mv (by_ : Int) : Int → Lm → Lm
 | d, .mk k i xs => .mk k (if k = 1 ∧ d ≤ i then i + by_ else i) (Lm.mvs by_ (under k d) xs)
def Lm.mvs (by_ : Int) : Int → List Lm → List Lm
 | _, [] => []
 | d, t :: ts => Lm.mv by_ d t :: Lm.mvs by_ d ts
end
theorem Lm.mvs_eq (b d : Int) : ∀ xs : List Lm, Lm.mvs b d xs = xs.map (Lm.mv b d)
 | [] => rfl
 | t :: ts => by rw [Lm.mvs, Lm.mvs_eq b d ts]; rfl
theorem Lm.mv_eq (b d : Int) (t : Lm) : Lm.mv b d t = .mk t.kind (if t.kind = 1 ∧ d ≤ t.idx then t.idx + b else t.idx) (t.subs.map (Lm.mv b (under t.kind d))) := by
 cases t
 rw [Lm.mv, Lm.mvs_eq]
 rfl
mutual
theorem Lm.size_mv (b : Int) : ∀ (d : Int) (t : Lm), (Lm.mv b d t).size = t.size
 | d, .mk k i xs => by rw [Lm.mv, Lm.size, Lm.size, Lm.sizes_mv b _ xs]
theorem Lm.sizes_mv (b : Int) : ∀ (d : Int) (xs : List Lm), Lm.sizes (Lm.mvs b d xs) = Lm.sizes xs
 | _, [] => rfl
 | d, t :: ts => by rw [Lm.mvs, Lm.sizes, Lm.sizes, Lm.size_mv b d t, Lm.sizes_mv b d ts]
end
mutual
def Lm.put (x : Lm) : Int → Lm → Lm
 | d, .mk k i xs => if k = 1 then (if i = d then Lm.mv d 0 x else if d < i then .mk 1 (i - 1) [] else .mk 1 i []) else .mk k i (Lm.puts x (under k d) xs)
def Lm.puts (x : Lm) : Int → List Lm → List Lm
 | _, [] => []
 | d, t :: ts => Lm.put x d t :: Lm.puts x d ts
end
theorem Lm.puts_eq (x : Lm) (d : Int) : ∀ xs : List Lm, Lm.puts x d xs = xs.map (Lm.put x d)
 | [] => rfl
 | t :: ts => by rw [Lm.puts, Lm.puts_eq x d ts]; rfl
theorem Lm.put_eq (x : Lm) (d : Int) (t : Lm) : Lm.put x d t = if t.kind = 1 then (if t.idx = d then Lm.mv d 0 x else if d < t.idx then .mk 1 (t.idx - 1) [] else .mk 1 t.idx []) else .mk t.kind t.idx (t.subs.map (Lm.put x (under t.kind d))) := by
 cases t
 rw [Lm.put, Lm.puts_eq]
 rfl
theorem mul_succ_le {a b c : Nat} (h : a ≤ b * c) (hc : 1 ≤ c) : 1 + a ≤ (1 + b) * c := by
 rw [Nat.add_mul, Nat.one_mul]
 omega
mutual
theorem Lm.size_put (x : Lm) : ∀ (d : Int) (t : Lm), (Lm.put x d t).size ≤ t.size * x.size
 | d, .mk k i xs => by
  have hx := Lm.size_pos x
  have h1 : 1 ≤ (1 + Lm.sizes xs) * x.size := by
   rw [Nat.add_mul]; omega
  have h2 : x.size ≤ (1 + Lm.sizes xs) * x.size := by
   rw [Nat.add_mul]; omega
  rw [Lm.put, Lm.size]
  split
  ·split
   ·rw [Lm.size_mv]; exact h2
   ·split
    ·simpa only [Lm.size, Lm.sizes, Nat.add_zero] using h1
    ·simpa only [Lm.size, Lm.sizes, Nat.add_zero] using h1
  ·rw [Lm.size]
   exact mul_succ_le (Lm.sizes_put x _ xs) hx
theorem Lm.sizes_put (x : Lm) : ∀ (d : Int) (xs : List Lm), Lm.sizes (Lm.puts x d xs) ≤ Lm.sizes xs * x.size
 | _, [] => by simp [Lm.puts, Lm.sizes]
 | d, t :: ts => by
  have h1 := Lm.size_put x d t
  have h2 := Lm.sizes_put x d ts
  rw [Lm.puts, Lm.sizes, Lm.sizes, Nat.add_mul]
  omega
end
mutual
def Lm.same : Lm → Lm → Bool
 | .mk k i xs, .mk l j ys => decide (k = l) && decide (i = j) && Lm.sames xs ys
def Lm.sames : List Lm → List Lm → Bool
 | [], [] => true
 | x :: xs, y :: ys => x.same y && Lm.sames xs ys
 | [], _ :: _ => false
 | _ :: _, [] => false
end
mutual
theorem Lm.same_self : ∀ t : Lm, t.same t = true
 | .mk k i xs => by simp [Lm.same, Lm.sames_self xs]
theorem Lm.sames_self : ∀ xs : List Lm, Lm.sames xs xs = true
 | [] => rfl
 | t :: ts => by simp [Lm.sames, Lm.same_self t, Lm.sames_self ts]
end
def Lm.may (m u : Int) (t : Lm) : Int := if u < 0 ∨ 40 < u then 10 else if 200 < t.size then 3 else t.chk m u
theorem Lm.may_ok {m u : Int} {t : Lm} (h : Lm.may m u t = 0) : 0 ≤ u ∧ u ≤ 40 ∧ t.size ≤ 200 ∧ t.chk m u = 0 := by
 unfold Lm.may at h
 split at h
 ·omega
 ·split at h
  ·omega
  ·omega
def Lm.nil : Lm := .mk 0 0 []
mutual
def Lm.pure : Lm → Bool
 | .mk k _ xs => !decide (k = 4) && Lm.pures xs
def Lm.pures : List Lm → Bool
 | [] => true
 | t :: ts => t.pure && Lm.pures ts
end
theorem Lm.pure_eq (t : Lm) : t.pure = (!decide (t.kind = 4) && Lm.pures t.subs) := by cases t; rfl
theorem Lm.pures_append (xs ys : List Lm) : Lm.pures (xs ++ ys) = (Lm.pures xs && Lm.pures ys) := by
 induction xs with
 | nil => simp [Lm.pures]
 | cons t ts ih => simp [Lm.pures, ih, Bool.and_assoc]
theorem Lm.pures_take {xs : List Lm} {k : Nat} {a : Lm} (h : xs[k]? = some a) (h0 : Lm.pures (xs.take k) = true) : Lm.pures (xs.take (k+1)) = a.pure := by
 rw [take_snoc h, Lm.pures_append, h0]
 simp [Lm.pures]
theorem Lm.pures_bad {xs : List Lm} {k : Nat} (h0 : Lm.pures (xs.take k) = false) : Lm.pures xs = false := by
 have := Lm.pures_append (xs.take k) (xs.drop k)
 rw [List.take_append_drop, h0, Bool.false_and] at this
 exact this

set_option maxRecDepth 100000
def ir_lambda_within : IR :=
 (.seq (.ops [.i 2 (.box 24 (.t 0)), .i 4 (.mov (.n 0))]) (.seq (.ops [.m 7 1, .i 8 (.bin .sub (.t 7) (.n 1)), .m 1 8]) (.seq (.seq (.ops [.f 9 2 2, .l 10 9, .i 11 (.len false (.t 10)), .i 12 (.mov (.n 0))]) (.block 0 (.loop (.seq (.ops [.i 13 (.bin .lss (.t 12) (.t 11))]) (.seq (.cond (.t 13) .skip (.exit 0)) (.seq (.block 1 (.seq (.ops [.i 14 (.indexAddr 3 (.t 10) (.t 12)), .L 15 3 14, .i 6 (.alloc 24 [.st (.int .i64 0), .st (.int .i64 0), .full []]), .s 3 6 15]) (.seq (.seq (.ops [.m 16 1, .i 17 (.bin .lss (.t 16) (.n 0))]) (.cond (.t 17) (.exit 0) .skip)) (.ops [.L 18 3 6, .m 19 1, .i 20 (.call 105 [.t 18, .t 19]), .m 1 20])))) (.ops [.i 21 (.bin .add (.t 12) (.n 1)), .m 12 21]))))))) (.seq (.ops [.m 22 1, .m 4 22]) .ret))))
theorem ok_lambda_within : OkF Tryz.prog 105 23 [] ir_lambda_within [.t 4] := .of Tryz.func105 rfl rfl (by kernel_rfl) rfl
def ir_lambda_check : IR :=
 (.seq (.ops [.i 3 (.box 24 (.t 0)), .i 6 (.mov (.n 0))]) (.seq (.seq (.ops [.f 11 0 3, .l 12 11, .i 13 (.bin .lss (.t 12) (.n 1)), .m 14 13, .mk (some 15) (some (14, false)) (.fieldAddr 0 (.t 3)) .no, .mk (some 16) (some (14, false)) (.load false 1 (.t 15)) .no, .mk (some 17) (some (14, false)) (.bin .gtr (.t 16) (.n 5)) .no, .i 18 (.pick (.t 14) (.c (.one (.st (.bool true)))) (.t 17)), .m 19 18, .mk (some 20) (some (19, false)) (.fieldAddr 2 (.t 3)) .no, .mk (some 21) (some (19, false)) (.load false 1 (.t 20)) .no, .mk (some 22) (some (19, false)) (.len false (.t 21)) .no, .mk (some 23) (some (19, false)) (.fieldAddr 0 (.t 3)) .no, .mk (some 24) (some (19, false)) (.load false 1 (.t 23)) .no, .mk (some 25) (some (19, false)) (.indexArr 6 1 (.c (.one (.eptr [.int .i64 0, .int .i64 0, .int .i64 1, .int .i64 2, .int .i64 0, .int .i64 0]))) (.t 24)) .no, .mk (some 26) (some (19, false)) (.load false 1 (.t 25)) .no, .mk (some 27) (some (19, false)) (.bin .neq (.t 22) (.t 26)) .no, .i 28 (.pick (.t 19) (.c (.one (.st (.bool true)))) (.t 27))]) (.cond (.t 28) (.seq (.ops [.i 6 (.mov (.n 2))]) .ret) .skip)) (.seq (.ops [.i 7 (.mov (.n 1))]) (.seq (.seq (.ops [.f 29 0 3, .l 30 29]) (.block 0 (.seq (.ops [.i 32 (.bin .eql (.t 30) (.n 1)), .m 31 32]) (.cond (.t 31) (.ops [.m 33 1, .m 7 33]) (.seq (.ops [.i 35 (.bin .eql (.t 30) (.n 4)), .m 34 35]) (.cond (.t 34) (.ops [.i 7 (.mov (.n 40))]) (.seq (.ops [.i 37 (.bin .eql (.t 30) (.n 5)), .m 36 37]) (.cond (.t 36) (.ops [.m 38 2, .m 7 38]) .skip)))))))) (.seq (.seq (.ops [.f 39 1 3, .l 40 39, .i 41 (.bin .lss (.t 40) (.n 0)), .m 42 41, .mk (some 43) (some (42, false)) (.fieldAddr 1 (.t 3)) .no, .mk (some 44) (some (42, false)) (.load false 1 (.t 43)) .no, .mk (some 45) (some (42, false)) (.mov (.t 7)) .no, .mk (some 46) (some (42, false)) (.bin .geq (.t 44) (.t 45)) .no, .i 47 (.pick (.t 42) (.c (.one (.st (.bool true)))) (.t 46))]) (.cond (.t 47) (.seq (.ops [.i 6 (.mov (.n 15))]) .ret) .skip)) (.seq (.seq (.ops [.f 48 0 3, .l 49 48, .i 50 (.bin .eql (.t 49) (.n 2))]) (.cond (.t 50) (.ops [.m 51 1, .i 52 (.bin .add (.t 51) (.n 1)), .m 1 52]) .skip)) (.seq (.seq (.ops [.f 53 2 3, .l 54 53, .i 55 (.len false (.t 54)), .i 56 (.mov (.n 0))]) (.block 1 (.loop (.seq (.ops [.i 57 (.bin .lss (.t 56) (.t 55))]) (.seq (.cond (.t 57) .skip (.exit 1)) (.seq (.block 2 (.seq (.ops [.i 58 (.indexAddr 3 (.t 54) (.t 56)), .L 59 3 58, .i 9 (.alloc 24 [.st (.int .i64 0), .st (.int .i64 0), .full []]), .s 3 9 59]) (.seq (.ops [.L 60 3 9, .m 61 1, .m 62 2, .i 63 (.call 106 [.t 60, .t 61, .t 62]), .m 10 63]) (.seq (.ops [.m 64 10, .i 65 (.bin .neq (.t 64) (.n 0))]) (.cond (.t 65) (.seq (.ops [.m 66 10, .m 6 66]) .ret) .skip))))) (.ops [.i 67 (.bin .add (.t 56) (.n 1)), .m 56 67]))))))) (.seq (.ops [.i 6 (.mov (.n 0))]) .ret))))))))
theorem ok_lambda_check : OkF Tryz.prog 106 68 [] ir_lambda_check [.t 6] := .of Tryz.func106 rfl rfl (by kernel_rfl) rfl
def ir_lambda_CheckWith : IR :=
 (.seq (.ops [.i 3 (.box 24 (.t 0)), .i 6 (.mov (.n 0))]) (.seq (.seq (.ops [.m 7 1, .i 8 (.bin .lss (.t 7) (.n 0)), .m 9 8, .mk (some 10) (some (9, false)) (.mov (.t 1)) .no, .mk (some 11) (some (9, false)) (.bin .gtr (.t 10) (.n 40)) .no, .i 12 (.pick (.t 9) (.c (.one (.st (.bool true)))) (.t 11))]) (.cond (.t 12) (.seq (.ops [.i 6 (.mov (.n 10))]) .ret) .skip)) (.seq (.seq (.ops [.L 13 3 3, .i 14 (.call 105 [.t 13, .n 200]), .i 15 (.bin .lss (.t 14) (.n 0))]) (.cond (.t 15) (.seq (.ops [.i 6 (.mov (.n 3))]) .ret) .skip)) (.seq (.ops [.L 16 3 3, .m 17 1, .m 18 2, .i 19 (.call 106 [.t 16, .t 17, .t 18]), .m 6 19]) .ret))))
theorem ok_lambda_CheckWith : OkF Tryz.prog 91 20 [] ir_lambda_CheckWith [.t 6] := .of Tryz.func91 rfl rfl (by kernel_rfl) rfl
def ir_lambda_Check : IR :=
 (.seq (.ops [.i 2 (.box 24 (.t 0)), .i 4 (.mov (.n 0))]) (.seq (.ops [.L 5 3 2, .m 6 1, .i 7 (.call 91 [.t 5, .t 6, .n 0]), .m 4 7]) .ret))
theorem ok_lambda_Check : OkF Tryz.prog 76 8 [] ir_lambda_Check [.t 4] := .of Tryz.func76 rfl rfl (by kernel_rfl) rfl
def ir_lambda_Size : IR :=
 (.seq (.ops [.i 1 (.box 24 (.t 0)), .i 2 (.mov (.n 0))]) (.seq (.ops [.i 3 (.mov (.n 1))]) (.seq (.seq (.ops [.f 6 2 1, .l 7 6, .i 8 (.len false (.t 7)), .i 9 (.mov (.n 0))]) (.block 0 (.loop (.seq (.ops [.i 10 (.bin .lss (.t 9) (.t 8))]) (.seq (.cond (.t 10) .skip (.exit 0)) (.seq (.block 1 (.seq (.ops [.i 11 (.indexAddr 3 (.t 7) (.t 9)), .L 12 3 11, .i 5 (.alloc 24 [.st (.int .i64 0), .st (.int .i64 0), .full []]), .s 3 5 12]) (.ops [.m 13 3, .L 14 3 5, .i 15 (.call 87 [.t 14]), .i 16 (.bin .add (.t 13) (.t 15)), .m 3 16]))) (.ops [.i 17 (.bin .add (.t 9) (.n 1)), .m 9 17]))))))) (.seq (.ops [.m 18 3, .m 2 18]) .ret))))
theorem ok_lambda_Size : OkF Tryz.prog 87 19 [] ir_lambda_Size [.t 2] := .of Tryz.func87 rfl rfl (by kernel_rfl) rfl
def ir_lambda_V : IR :=
 (.seq (.ops [.i 2 (.alloc 24 [.st (.int .i64 0), .st (.int .i64 0), .full []])]) (.seq (.ops [.m 3 0, .i 4 (.build [.st (.int .i64 0), .st (.int .i64 0), .full []] [(0, 1, .n 1), (1, 1, .t 3)]), .s 3 2 4]) .ret))
theorem ok_lambda_V : OkF Tryz.prog 64 5 [] ir_lambda_V [.cell 2 true 3] := .of Tryz.func64 rfl rfl (by kernel_rfl) rfl
def ir_lambda_Move : IR :=
 (.seq (.ops [.i 3 (.box 24 (.t 0)), .i 6 (.alloc 24 [.st (.int .i64 0), .st (.int .i64 0), .full []])]) (.seq (.ops [.f 10 0 3, .l 11 10, .f 12 1 3, .l 13 12, .i 14 (.build [.st (.int .i64 0), .st (.int .i64 0), .full []] [(0, 1, .t 11), (1, 1, .t 13)]), .i 7 (.alloc 24 [.st (.int .i64 0), .st (.int .i64 0), .full []]), .s 3 7 14]) (.seq (.seq (.ops [.f 15 0 3, .l 16 15]) (.block 0 (.seq (.ops [.i 18 (.bin .eql (.t 16) (.n 1)), .m 17 18]) (.cond (.t 17) (.seq (.ops [.f 19 1 3, .l 20 19, .m 21 2, .i 22 (.bin .geq (.t 20) (.t 21))]) (.cond (.t 22) (.ops [.f 23 1 7, .l 24 23, .m 25 1, .i 26 (.bin .add (.t 24) (.t 25)), .f 27 1 7, .s 1 27 26]) .skip)) (.seq (.ops [.i 29 (.bin .eql (.t 16) (.n 2)), .m 28 29]) (.cond (.t 28) (.ops [.m 30 2, .i 31 (.bin .add (.t 30) (.n 1)), .m 2 31]) .skip)))))) (.seq (.seq (.ops [.f 32 2 3, .l 33 32, .i 34 (.len false (.t 33)), .i 35 (.mov (.n 0))]) (.block 1 (.loop (.seq (.ops [.i 36 (.bin .lss (.t 35) (.t 34))]) (.seq (.cond (.t 36) .skip (.exit 1)) (.seq (.block 2 (.seq (.ops [.i 37 (.indexAddr 3 (.t 33) (.t 35)), .L 38 3 37, .i 9 (.alloc 24 [.st (.int .i64 0), .st (.int .i64 0), .full []]), .s 3 9 38]) (.ops [.f 39 2 7, .l 40 39, .L 41 3 9, .m 42 1, .m 43 2, .i 44 (.call 63 [.t 41, .t 42, .t 43]), .i 45 (.buildSlice false 24 3 [.t 44]), .i 46 (.append false 24 3 40 (.t 40) (.t 45)), .f 47 2 7, .s 1 47 46]))) (.ops [.i 48 (.bin .add (.t 35) (.n 1)), .m 35 48]))))))) (.seq (.ops [.L 49 3 7, .s 3 6 49]) .ret)))))
theorem ok_lambda_Move : OkF Tryz.prog 63 50 [] ir_lambda_Move [.cell 6 true 3] := .of Tryz.func63 rfl rfl (by kernel_rfl) rfl
def ir_lambda_into : IR :=
 (.seq (.ops [.i 3 (.box 24 (.t 0)), .i 4 (.box 24 (.t 1)), .i 6 (.alloc 24 [.st (.int .i64 0), .st (.int .i64 0), .full []])]) (.seq (.seq (.ops [.f 10 0 3, .l 11 10, .i 12 (.bin .eql (.t 11) (.n 1))]) (.cond (.t 12) (.seq (.block 0 (.seq (.ops [.f 14 1 3, .l 15 14, .m 16 2, .i 17 (.bin .eql (.t 15) (.t 16)), .m 13 17]) (.cond (.t 13) (.seq (.ops [.L 18 3 4, .m 19 2, .i 20 (.call 63 [.t 18, .t 19, .n 0]), .s 3 6 20]) .ret) (.seq (.ops [.f 22 1 3, .l 23 22, .m 24 2, .i 25 (.bin .gtr (.t 23) (.t 24)), .m 21 25]) (.cond (.t 21) (.seq (.ops [.f 26 1 3, .l 27 26, .i 28 (.bin .sub (.t 27) (.n 1)), .i 29 (.call 64 [.t 28]), .s 3 6 29]) .ret) .skip))))) (.seq (.ops [.f 30 1 3, .l 31 30, .i 32 (.call 64 [.t 31]), .s 3 6 32]) .ret)) .skip)) (.seq (.ops [.f 33 0 3, .l 34 33, .f 35 1 3, .l 36 35, .i 37 (.build [.st (.int .i64 0), .st (.int .i64 0), .full []] [(0, 1, .t 34), (1, 1, .t 36)]), .i 7 (.alloc 24 [.st (.int .i64 0), .st (.int .i64 0), .full []]), .s 3 7 37]) (.seq (.seq (.ops [.f 38 0 3, .l 39 38, .i 40 (.bin .eql (.t 39) (.n 2))]) (.cond (.t 40) (.ops [.m 41 2, .i 42 (.bin .add (.t 41) (.n 1)), .m 2 42]) .skip)) (.seq (.seq (.ops [.f 43 2 3, .l 44 43, .i 45 (.len false (.t 44)), .i 46 (.mov (.n 0))]) (.block 1 (.loop (.seq (.ops [.i 47 (.bin .lss (.t 46) (.t 45))]) (.seq (.cond (.t 47) .skip (.exit 1)) (.seq (.block 2 (.seq (.ops [.i 48 (.indexAddr 3 (.t 44) (.t 46)), .L 49 3 48, .i 9 (.alloc 24 [.st (.int .i64 0), .st (.int .i64 0), .full []]), .s 3 9 49]) (.ops [.f 50 2 7, .l 51 50, .L 52 3 9, .L 53 3 4, .m 54 2, .i 55 (.call 114 [.t 52, .t 53, .t 54]), .i 56 (.buildSlice false 24 3 [.t 55]), .i 57 (.append false 24 3 40 (.t 51) (.t 56)), .f 58 2 7, .s 1 58 57]))) (.ops [.i 59 (.bin .add (.t 46) (.n 1)), .m 46 59]))))))) (.seq (.ops [.L 60 3 7, .s 3 6 60]) .ret))))))
theorem ok_lambda_into : OkF Tryz.prog 114 61 [] ir_lambda_into [.cell 6 true 3] := .of Tryz.func114 rfl rfl (by kernel_rfl) rfl
def ir_lambda_Into : IR :=
 (.seq (.ops [.i 2 (.box 24 (.t 0)), .i 3 (.box 24 (.t 1)), .i 4 (.alloc 24 [.st (.int .i64 0), .st (.int .i64 0), .full []])]) (.seq (.ops [.L 5 3 2, .L 6 3 3, .i 7 (.call 114 [.t 5, .t 6, .n 0]), .s 3 4 7]) .ret))
theorem ok_lambda_Into : OkF Tryz.prog 104 8 [] ir_lambda_Into [.cell 4 true 3] := .of Tryz.func104 rfl rfl (by kernel_rfl) rfl
def ir_R_LamSize : IR :=
 (.seq (.ops [.i 2 (.box 24 (.t 0)), .i 4 (.mov (.n 0))]) (.seq (.ops [.i 5 (.mov (.n 1))]) (.seq (.seq (.ops [.i 6 (.mov (.n 0))]) (.block 0 (.loop (.seq (.seq (.ops [.m 7 6, .f 8 2 2, .l 9 8, .i 10 (.len false (.t 9)), .i 11 (.bin .lss (.t 7) (.t 10)), .m 12 11, .mk (some 13) (some (12, true)) (.mov (.t 5)) .no, .mk (some 14) (some (12, true)) (.mov (.t 1)) .no, .mk (some 15) (some (12, true)) (.bin .leq (.t 13) (.t 14)) .no, .i 16 (.pick (.t 12) (.t 15) (.c (.one (.st (.bool false)))))]) (.cond (.t 16) .skip (.exit 0))) (.seq (.block 1 (.ops [.m 19 5, .f 20 2 2, .l 21 20, .m 22 6, .i 23 (.indexAddr 3 (.t 21) (.t 22)), .L 24 3 23, .m 25 1, .m 26 5, .i 27 (.bin .sub (.t 25) (.t 26)), .i 28 (.call 10 [.t 24, .t 27]), .i 29 (.bin .add (.t 19) (.t 28)), .m 5 29])) (.ops [.m 17 6, .i 18 (.bin .add (.t 17) (.n 1)), .m 6 18])))))) (.seq (.seq (.ops [.m 30 5, .m 31 1, .i 32 (.bin .gtr (.t 30) (.t 31))]) (.cond (.t 32) (.seq (.ops [.m 33 1, .i 34 (.bin .add (.t 33) (.n 1)), .m 4 34]) .ret) .skip)) (.seq (.ops [.m 35 5, .m 4 35]) .ret)))))
theorem ok_R_LamSize : OkF Tryz.prog 10 36 [] ir_R_LamSize [.t 4] := .of Tryz.func10 rfl rfl (by kernel_rfl) rfl
def ir_R_LamMay : IR :=
 (.seq (.ops [.i 3 (.box 24 (.t 0)), .i 6 (.mov (.n 0))]) (.seq (.seq (.ops [.m 7 1, .i 8 (.bin .lss (.t 7) (.n 0)), .m 9 8, .mk (some 10) (some (9, false)) (.mov (.t 1)) .no, .mk (some 11) (some (9, false)) (.bin .gtr (.t 10) (.n 40)) .no, .i 12 (.pick (.t 9) (.c (.one (.st (.bool true)))) (.t 11))]) (.cond (.t 12) (.seq (.ops [.i 6 (.mov (.n 10))]) .ret) .skip)) (.seq (.seq (.ops [.L 13 3 3, .i 14 (.call 10 [.t 13, .n 200]), .i 15 (.bin .gtr (.t 14) (.n 200))]) (.cond (.t 15) (.seq (.ops [.i 6 (.mov (.n 3))]) .ret) .skip)) (.seq (.ops [.L 16 3 3, .m 17 1, .m 18 2, .i 19 (.call 23 [.t 16, .t 17, .t 18]), .m 6 19]) .ret))))
theorem ok_R_LamMay : OkF Tryz.prog 8 20 [] ir_R_LamMay [.t 6] := .of Tryz.func8 rfl rfl (by kernel_rfl) rfl
def ir_R_lamMay : IR :=
 (.seq (.ops [.i 3 (.box 24 (.t 0)), .i 6 (.mov (.n 0))]) (.seq (.ops [.i 7 (.mov (.n 1))]) (.seq (.ops [.i 8 (.mov (.n 0))]) (.seq (.ops [.m 12 1, .m 9 12]) (.seq (.seq (.ops [.f 13 0 3, .l 14 13]) (.block 0 (.seq (.ops [.i 16 (.bin .eql (.t 14) (.n 1)), .m 15 16]) (.cond (.t 15) (.ops [.m 17 1, .m 7 17]) (.seq (.ops [.i 19 (.bin .eql (.t 14) (.n 2)), .m 18 19]) (.cond (.t 18) (.seq (.ops [.i 8 (.mov (.n 1))]) (.ops [.m 20 1, .i 21 (.bin .add (.t 20) (.n 1)), .m 9 21])) (.seq (.ops [.i 23 (.bin .eql (.t 14) (.n 3)), .m 22 23]) (.cond (.t 22) (.ops [.i 8 (.mov (.n 2))]) (.seq (.ops [.i 25 (.bin .eql (.t 14) (.n 4)), .m 24 25]) (.cond (.t 24) (.ops [.i 7 (.mov (.n 40))]) (.seq (.ops [.i 27 (.bin .eql (.t 14) (.n 5)), .m 26 27]) (.cond (.t 26) (.ops [.m 28 2, .m 7 28]) (.seq (.ops [.i 6 (.mov (.n 2))]) .ret))))))))))))) (.seq (.seq (.ops [.f 29 2 3, .l 30 29, .i 31 (.len false (.t 30)), .m 32 8, .i 33 (.bin .neq (.t 31) (.t 32))]) (.cond (.t 33) (.seq (.ops [.i 6 (.mov (.n 2))]) .ret) .skip)) (.seq (.seq (.ops [.f 34 1 3, .l 35 34, .i 36 (.bin .lss (.t 35) (.n 0)), .m 37 36, .mk (some 38) (some (37, false)) (.fieldAddr 1 (.t 3)) .no, .mk (some 39) (some (37, false)) (.load false 1 (.t 38)) .no, .mk (some 40) (some (37, false)) (.mov (.t 7)) .no, .mk (some 41) (some (37, false)) (.bin .geq (.t 39) (.t 40)) .no, .i 42 (.pick (.t 37) (.c (.one (.st (.bool true)))) (.t 41))]) (.cond (.t 42) (.seq (.ops [.i 6 (.mov (.n 15))]) .ret) .skip)) (.seq (.seq (.ops [.i 10 (.mov (.n 0))]) (.block 1 (.loop (.seq (.seq (.ops [.m 43 10, .m 44 8, .i 45 (.bin .lss (.t 43) (.t 44))]) (.cond (.t 45) .skip (.exit 1))) (.seq (.block 2 (.seq (.ops [.f 48 2 3, .l 49 48, .m 50 10, .i 51 (.indexAddr 3 (.t 49) (.t 50)), .L 52 3 51, .m 53 9, .m 54 2, .i 55 (.call 23 [.t 52, .t 53, .t 54]), .m 11 55]) (.seq (.ops [.m 56 11, .i 57 (.bin .neq (.t 56) (.n 0))]) (.cond (.t 57) (.seq (.ops [.m 58 11, .m 6 58]) .ret) .skip)))) (.ops [.m 46 10, .i 47 (.bin .add (.t 46) (.n 1)), .m 10 47])))))) (.seq (.ops [.i 6 (.mov (.n 0))]) .ret)))))))))
theorem ok_R_lamMay : OkF Tryz.prog 23 59 [] ir_R_lamMay [.t 6] := .of Tryz.func23 rfl rfl (by kernel_rfl) rfl
def ir_R_SameLam : IR :=
 (.seq (.ops [.i 2 (.box 24 (.t 0)), .i 3 (.box 24 (.t 1)), .i 4 (.mov (.c (.one (.st (.bool false)))))]) (.seq (.seq (.ops [.f 6 0 2, .l 7 6, .f 8 0 3, .l 9 8, .i 10 (.bin .neq (.t 7) (.t 9)), .m 11 10, .mk (some 12) (some (11, false)) (.fieldAddr 1 (.t 2)) .no, .mk (some 13) (some (11, false)) (.load false 1 (.t 12)) .no, .mk (some 14) (some (11, false)) (.fieldAddr 1 (.t 3)) .no, .mk (some 15) (some (11, false)) (.load false 1 (.t 14)) .no, .mk (some 16) (some (11, false)) (.bin .neq (.t 13) (.t 15)) .no, .i 17 (.pick (.t 11) (.c (.one (.st (.bool true)))) (.t 16)), .m 18 17, .mk (some 19) (some (18, false)) (.fieldAddr 2 (.t 2)) .no, .mk (some 20) (some (18, false)) (.load false 1 (.t 19)) .no, .mk (some 21) (some (18, false)) (.len false (.t 20)) .no, .mk (some 22) (some (18, false)) (.fieldAddr 2 (.t 3)) .no, .mk (some 23) (some (18, false)) (.load false 1 (.t 22)) .no, .mk (some 24) (some (18, false)) (.len false (.t 23)) .no, .mk (some 25) (some (18, false)) (.bin .neq (.t 21) (.t 24)) .no, .i 26 (.pick (.t 18) (.c (.one (.st (.bool true)))) (.t 25))]) (.cond (.t 26) (.seq (.ops [.i 4 (.mov (.c (.one (.st (.bool false)))))]) .ret) .skip)) (.seq (.seq (.ops [.i 5 (.mov (.n 0))]) (.block 0 (.loop (.seq (.seq (.ops [.m 27 5, .f 28 2 2, .l 29 28, .i 30 (.len false (.t 29)), .i 31 (.bin .lss (.t 27) (.t 30))]) (.cond (.t 31) .skip (.exit 0))) (.seq (.block 1 (.seq (.ops [.f 34 2 2, .l 35 34, .m 36 5, .i 37 (.indexAddr 3 (.t 35) (.t 36)), .L 38 3 37, .f 39 2 3, .l 40 39, .m 41 5, .i 42 (.indexAddr 3 (.t 40) (.t 41)), .L 43 3 42, .i 44 (.call 42 [.t 38, .t 43]), .i 45 (.un .not (.t 44))]) (.cond (.t 45) (.seq (.ops [.i 4 (.mov (.c (.one (.st (.bool false)))))]) .ret) .skip))) (.ops [.m 32 5, .i 33 (.bin .add (.t 32) (.n 1)), .m 5 33])))))) (.seq (.ops [.i 4 (.mov (.c (.one (.st (.bool true)))))]) .ret))))
theorem ok_R_SameLam : OkF Tryz.prog 42 46 [] ir_R_SameLam [.t 4] := .of Tryz.func42 rfl rfl (by kernel_rfl) rfl
def ir_R_Var : IR :=
 (.seq (.ops [.i 2 (.alloc 24 [.st (.int .i64 0), .st (.int .i64 0), .full []])]) (.seq (.ops [.m 3 0, .i 4 (.build [.st (.int .i64 0), .st (.int .i64 0), .full []] [(0, 1, .n 1), (1, 1, .t 3)]), .s 3 2 4]) .ret))
theorem ok_R_Var : OkF Tryz.prog 34 5 [] ir_R_Var [.cell 2 true 3] := .of Tryz.func34 rfl rfl (by kernel_rfl) rfl
def ir_R_Higher : IR :=
 (.seq (.ops [.i 3 (.box 24 (.t 0)), .i 6 (.alloc 24 [.st (.int .i64 0), .st (.int .i64 0), .full []])]) (.seq (.seq (.ops [.f 9 0 3, .l 10 9, .i 11 (.bin .eql (.t 10) (.n 1))]) (.cond (.t 11) (.seq (.seq (.ops [.f 12 1 3, .l 13 12, .m 14 2, .i 15 (.bin .lss (.t 13) (.t 14))]) (.cond (.t 15) (.seq (.ops [.L 16 3 3, .s 3 6 16]) .ret) .skip)) (.seq (.ops [.f 17 1 3, .l 18 17, .m 19 1, .i 20 (.bin .add (.t 18) (.t 19)), .i 21 (.call 34 [.t 20]), .s 3 6 21]) .ret)) .skip)) (.seq (.seq (.ops [.f 22 0 3, .l 23 22, .i 24 (.bin .eql (.t 23) (.n 2))]) (.cond (.t 24) (.ops [.m 25 2, .i 26 (.bin .add (.t 25) (.n 1)), .m 2 26]) .skip)) (.seq (.ops [.f 27 0 3, .l 28 27, .f 29 1 3, .l 30 29, .i 31 (.build [.st (.int .i64 0), .st (.int .i64 0), .full []] [(0, 1, .t 28), (1, 1, .t 30)]), .i 7 (.alloc 24 [.st (.int .i64 0), .st (.int .i64 0), .full []]), .s 3 7 31]) (.seq (.seq (.ops [.i 8 (.mov (.n 0))]) (.block 0 (.loop (.seq (.seq (.ops [.m 32 8, .f 33 2 3, .l 34 33, .i 35 (.len false (.t 34)), .i 36 (.bin .lss (.t 32) (.t 35))]) (.cond (.t 36) .skip (.exit 0))) (.seq (.block 1 (.ops [.f 39 2 7, .l 40 39, .f 41 2 3, .l 42 41, .m 43 8, .i 44 (.indexAddr 3 (.t 42) (.t 43)), .L 45 3 44, .m 46 1, .m 47 2, .i 48 (.call 33 [.t 45, .t 46, .t 47]), .i 49 (.buildSlice false 24 3 [.t 48]), .i 50 (.append false 24 3 40 (.t 40) (.t 49)), .f 51 2 7, .s 1 51 50])) (.ops [.m 37 8, .i 38 (.bin .add (.t 37) (.n 1)), .m 8 38])))))) (.seq (.ops [.L 52 3 7, .s 3 6 52]) .ret))))))
theorem ok_R_Higher : OkF Tryz.prog 33 53 [] ir_R_Higher [.cell 6 true 3] := .of Tryz.func33 rfl rfl (by kernel_rfl) rfl
def ir_R_Instead : IR :=
 (.seq (.ops [.i 3 (.box 24 (.t 0)), .i 6 (.alloc 24 [.st (.int .i64 0), .st (.int .i64 0), .full []])]) (.seq (.seq (.ops [.f 10 0 3, .l 11 10, .i 12 (.bin .eql (.t 11) (.n 1))]) (.cond (.t 12) (.seq (.seq (.ops [.f 13 1 3, .l 14 13, .m 15 2, .i 16 (.bin .lss (.t 14) (.t 15))]) (.cond (.t 16) (.seq (.ops [.L 17 3 3, .s 3 6 17]) .ret) .skip)) (.seq (.ops [.f 18 1 3, .l 19 18, .m 20 2, .i 21 (.bin .sub (.t 19) (.t 20)), .m 7 21]) (.seq (.seq (.ops [.m 22 7, .m 23 1, .i 24 (.len false (.t 23)), .i 25 (.bin .lss (.t 22) (.t 24))]) (.cond (.t 25) (.seq (.ops [.m 26 1, .m 27 7, .i 28 (.indexAddr 3 (.t 26) (.t 27)), .L 29 3 28, .m 30 2, .i 31 (.call 33 [.t 29, .t 30, .n 0]), .s 3 6 31]) .ret) .skip)) (.seq (.ops [.f 32 1 3, .l 33 32, .m 34 1, .i 35 (.len false (.t 34)), .i 36 (.bin .sub (.t 33) (.t 35)), .i 37 (.call 34 [.t 36]), .s 3 6 37]) .ret)))) .skip)) (.seq (.seq (.ops [.f 38 0 3, .l 39 38, .i 40 (.bin .eql (.t 39) (.n 2))]) (.cond (.t 40) (.ops [.m 41 2, .i 42 (.bin .add (.t 41) (.n 1)), .m 2 42]) .skip)) (.seq (.ops [.f 43 0 3, .l 44 43, .f 45 1 3, .l 46 45, .i 47 (.build [.st (.int .i64 0), .st (.int .i64 0), .full []] [(0, 1, .t 44), (1, 1, .t 46)]), .i 8 (.alloc 24 [.st (.int .i64 0), .st (.int .i64 0), .full []]), .s 3 8 47]) (.seq (.seq (.ops [.i 9 (.mov (.n 0))]) (.block 0 (.loop (.seq (.seq (.ops [.m 48 9, .f 49 2 3, .l 50 49, .i 51 (.len false (.t 50)), .i 52 (.bin .lss (.t 48) (.t 51))]) (.cond (.t 52) .skip (.exit 0))) (.seq (.block 1 (.ops [.f 55 2 8, .l 56 55, .f 57 2 3, .l 58 57, .m 59 9, .i 60 (.indexAddr 3 (.t 58) (.t 59)), .L 61 3 60, .m 62 1, .m 63 2, .i 64 (.call 73 [.t 61, .t 62, .t 63]), .i 65 (.buildSlice false 24 3 [.t 64]), .i 66 (.append false 24 3 40 (.t 56) (.t 65)), .f 67 2 8, .s 1 67 66])) (.ops [.m 53 9, .i 54 (.bin .add (.t 53) (.n 1)), .m 9 54])))))) (.seq (.ops [.L 68 3 8, .s 3 6 68]) .ret))))))
theorem ok_R_Instead : OkF Tryz.prog 73 69 [] ir_R_Instead [.cell 6 true 3] := .of Tryz.func73 rfl rfl (by kernel_rfl) rfl
def ir_R_Beta : IR :=
 (.seq (.ops [.i 2 (.box 24 (.t 0)), .i 3 (.box 24 (.t 1)), .i 4 (.alloc 24 [.st (.int .i64 0), .st (.int .i64 0), .full []])]) (.seq (.ops [.L 5 3 2, .L 6 3 3, .i 7 (.buildSlice false 24 3 [.t 6]), .i 8 (.call 73 [.t 5, .t 7, .n 0]), .s 3 4 8]) .ret))
theorem ok_R_Beta : OkF Tryz.prog 54 9 [] ir_R_Beta [.cell 4 true 3] := .of Tryz.func54 rfl rfl (by kernel_rfl) rfl
def ir_L_lam2 : IR :=
 (.seq (.ops [.i 4 (.box 24 (.t 0)), .i 6 (.box 24 (.t 2)), .i 8 (.mov (.c (.one (.st (.bool false)))))]) (.seq (.seq (.ops [.m 9 3, .i 10 (.bin .neq (.t 9) (.n 0))]) (.cond (.t 10) (.seq (.ops [.m 11 1, .m 12 3, .i 13 (.bin .eql (.t 11) (.t 12)), .m 14 13, .mk (some 15) (some (14, true)) (.fieldAddr 0 (.t 4)) .no, .mk (some 16) (some (14, true)) (.load false 1 (.t 15)) .no, .mk (some 17) (some (14, true)) (.bin .eql (.t 16) (.n 0)) .no, .i 18 (.pick (.t 14) (.t 17) (.c (.one (.st (.bool false))))), .m 19 18, .mk (some 20) (some (19, true)) (.fieldAddr 1 (.t 4)) .no, .mk (some 21) (some (19, true)) (.load false 1 (.t 20)) .no, .mk (some 22) (some (19, true)) (.bin .eql (.t 21) (.n 0)) .no, .i 23 (.pick (.t 19) (.t 22) (.c (.one (.st (.bool false))))), .m 24 23, .mk (some 25) (some (24, true)) (.fieldAddr 2 (.t 4)) .no, .mk (some 26) (some (24, true)) (.load false 1 (.t 25)) .no, .mk (some 27) (some (24, true)) (.len false (.t 26)) .no, .mk (some 28) (some (24, true)) (.bin .eql (.t 27) (.n 0)) .no, .i 29 (.pick (.t 24) (.t 28) (.c (.one (.st (.bool false))))), .m 8 29]) .ret) .skip)) (.seq (.ops [.m 30 1, .i 31 (.bin .eql (.t 30) (.n 0)), .m 32 31, .mk (some 33) (some (32, true)) (.load true 3 (.t 4)) .no, .mk (some 34) (some (32, true)) (.load true 3 (.t 6)) .no, .mk (some 35) (some (32, true)) (.call 42 [.t 33, .t 34]) .no, .i 36 (.pick (.t 32) (.t 35) (.c (.one (.st (.bool false))))), .m 8 36]) .ret)))
theorem ok_L_lam2 : OkF Tryz.prog 17 37 [] ir_L_lam2 [.t 8] := .of Tryz.func17 rfl rfl (by kernel_rfl) rfl
def ir_L_hugeLam : IR :=
 (.seq (.ops [.i 1 (.box 24 (.t 0)), .i 2 (.mov (.c (.one (.st (.bool false)))))]) (.seq (.ops [.L 3 3 1, .i 4 (.call 10 [.t 3, .n 3000]), .i 5 (.bin .gtr (.t 4) (.n 3000)), .m 2 5]) .ret))
theorem ok_L_hugeLam : OkF Tryz.prog 5 6 [] ir_L_hugeLam [.t 2] := .of Tryz.func5 rfl rfl (by kernel_rfl) rfl

set_option linter.unusedSimpArgs false
set_option maxHeartbeats 400000
theorem lwithin_a (t : Lm) (m : Int) (h0 : 0 ≤ m) (h1 : m ≤ 9223372036854775807) : ACalls Tryz.prog 105 [aLm t, aInt m] (aInt (lessBy t.size m)) := by
 induction h : SizeOf.sizeOf t using Nat.strongRecOn generalizing t m with
 | _ N ih =>
 subst h
 have hs := Lm.size_eq t
 refine ok_lambda_within.ac fun C hC => ?_
 unfold ir_lambda_within
 refine IWP.learn 0 (by omega) fun hkn => ?_
 have hkn := (known_lm hkn).2.2
 repeat' (first | (with_reducible first | refine W ?_ | refine Z0 ?_) | ((with_reducible first | refine Wo (fun K hK => ?_) | refine Wq ?_ | refine Wr ?_); (try simp only [go_sem, fN, seval, eT, iR]); (repeat with_reducible refine Ai ?_); (try (refine hK _ ?_; clear hK K))))
 refine IWP.loopD [6] (fun n s => ∃ k, k ≤ t.subs.length ∧ n = t.subs.length - k ∧ s.env 1 = aInt (lessBy (1 + Lm.sizes (t.subs.take k)) m) ∧ s.env 10 = .one (.st (.list (t.subs.map encL))) ∧ s.env 11 = aInt t.subs.length ∧ s.env 12 = aInt k ∧ s.S 6 = none) t.subs.length ⟨0, Nat.zero_le _, rfl, by
  simp only [go_sem, fN, seval, eT, iR]
  rw [lessBy]
  have z0 : Lm.sizes [] = 0 := rfl
  congr 3
  split <;> omega, rfl, rfl, rfl, rfl⟩ ?_
 rintro n ⟨env, S⟩ ⟨k, hk, rfl, e1, e10, e11, e12, s6⟩
 simp only at e1 e10 e11 e12 s6
 repeat' (first | (with_reducible first | refine W ?_ | refine Z0 ?_) | ((with_reducible first | refine Wo (fun K hK => ?_) | refine Wq ?_ | refine Wr ?_); (try simp only [go_sem, fN, seval, eT, iR, e1, e10, e11, e12, s6]); (repeat with_reducible refine Ai ?_); (try (refine hK _ ?_; clear hK K))))
 with_reducible refine Wp ?_
 simp only [go_sem, fN, seval, true_implies, false_implies, implies_true, dT, dF, nL, e1, e10, e11, e12, s6]
 (try with_reducible refine iC ?_)
 refine ⟨fun hlt => ?_, fun hge => ?_⟩
 ·obtain ⟨a, ha⟩ := get_lt (show k < t.subs.length by omega)
  have z1 := Lm.sizes_take ha
  have z2 := Lm.sizes_take_le t.subs (k + 1)
  have z3 := Lm.length_le t.subs
  have z4 := lessBy_le (1 + Lm.sizes (t.subs.take k)) m h0
  repeat' (first | (with_reducible first | refine W ?_ | refine Z0 ?_) | ((with_reducible first | refine Wo (fun K hK => ?_) | refine Wq ?_ | refine Wr ?_); (try simp only [go_sem, fN, seval, eT, iR, e1, e10, e11, e12, s6, ha]); (repeat with_reducible refine Ai ?_); (try (refine hK _ ?_; clear hK K))))
  with_reducible refine Wp ?_
  simp only [go_sem, fN, seval, true_implies, false_implies, implies_true, dT, dF, nL, e1]
  (try with_reducible refine iC ?_)
  refine ⟨fun hb => ?_, fun hb => ?_⟩
  ·repeat' (first | (with_reducible first | refine W ?_ | refine Z0 ?_) | ((with_reducible first | refine Wo (fun K hK => ?_) | refine Wq ?_ | refine Wr ?_); (try simp only [go_sem, fN, seval, eT, iR, e1]); (repeat with_reducible refine Ai ?_); (try (refine hK _ ?_; clear hK K))))
   simp only [go_sem, fN, seval, FinQ, AS.result, resAll, resOne, tupV, e1]
   rw [lessBy_neg hb (show _ ≤ t.size by rw [hs]; omega)]
  ·repeat' (first | (with_reducible first | refine W ?_ | refine Z0 ?_) | refine Cg _ (ih _ (Lm.lt_of_sub (mem_of_get ha)) a _ (by omega) (by omega) rfl) ?_ | ((with_reducible first | refine Wo (fun K hK => ?_) | refine Wq ?_ | refine Wr ?_); (try simp only [go_sem, fN, seval, eT, iR, e1, e10, e11, e12, s6, ha]); (repeat with_reducible refine Ai ?_); (try (refine hK _ ?_; clear hK K))))
   refine then_normal ⟨t.subs.length - (k + 1), by omega, k + 1, by omega, rfl, ?_⟩
   simp only [go_sem, fN, seval, AS.drop, dropS, AC.clears, AC.clear, AC.highs, AC.high, Bool.not_false, Bool.true_and, Bool.and_self, AV.purge, AV.purges, AC.purge, ABlk.purge, List.contains_cons, List.contains_nil, Nat.reduceBEq, Bool.or_self, Bool.or_false, Bool.false_or, Bool.or_true, eT, iR, e1, e10, e11, e12, s6]
   exact ⟨by rw [lessBy_step (by omega), z1]; congr 4; omega, by congr 3⟩
 ·repeat' (first | (with_reducible first | refine W ?_ | refine Z0 ?_) | ((with_reducible first | refine Wo (fun K hK => ?_) | refine Wq ?_ | refine Wr ?_); (try simp only [go_sem, fN, seval, eT, iR, e1]); (repeat with_reducible refine Ai ?_); (try (refine hK _ ?_; clear hK K))))
  simp only [go_sem, fN, seval, FinQ, AS.result, resAll, resOne, tupV, e1]
  rw [List.take_of_length_le (by omega), hs]
theorem lsize_a (t : Lm) (hz : t.size ≤ 1000000000) : ACalls Tryz.prog 87 [aLm t] (aInt t.size) := by
 induction h : SizeOf.sizeOf t using Nat.strongRecOn generalizing t with
 | _ N ih =>
 subst h
 have hs := Lm.size_eq t
 have hkn := Lm.length_le t.subs
 refine ok_lambda_Size.ac fun C hC => ?_
 unfold ir_lambda_Size
 repeat' (first | (with_reducible first | refine W ?_ | refine Z0 ?_) | ((with_reducible first | refine Wo (fun K hK => ?_) | refine Wq ?_ | refine Wr ?_); (try simp only [go_sem, fN, seval, eT, iR]); (repeat with_reducible refine Ai ?_); (try (refine hK _ ?_; clear hK K))))
 refine IWP.loopD [5] (fun n s => ∃ k, k ≤ t.subs.length ∧ n = t.subs.length - k ∧ s.env 3 = aInt ((1 + Lm.sizes (t.subs.take k) : Nat)) ∧ s.env 7 = .one (.st (.list (t.subs.map encL))) ∧ s.env 8 = aInt t.subs.length ∧ s.env 9 = aInt k ∧ s.S 5 = none) t.subs.length ⟨0, Nat.zero_le _, rfl, rfl, rfl, rfl, rfl, rfl⟩ ?_
 rintro n ⟨env, S⟩ ⟨k, hk, rfl, e3, e7, e8, e9, s5⟩
 simp only at e3 e7 e8 e9 s5
 repeat' (first | (with_reducible first | refine W ?_ | refine Z0 ?_) | ((with_reducible first | refine Wo (fun K hK => ?_) | refine Wq ?_ | refine Wr ?_); (try simp only [go_sem, fN, seval, eT, iR, e3, e7, e8, e9, s5]); (repeat with_reducible refine Ai ?_); (try (refine hK _ ?_; clear hK K))))
 with_reducible refine Wp ?_
 simp only [go_sem, fN, seval, true_implies, false_implies, implies_true, dT, dF, nL, e3, e7, e8, e9, s5]
 (try with_reducible refine iC ?_)
 refine ⟨fun hlt => ?_, fun hge => ?_⟩
 ·obtain ⟨a, ha⟩ := get_lt (show k < t.subs.length by omega)
  have z1 := Lm.sizes_take ha
  have z2 := Lm.sizes_take_le t.subs (k + 1)
  have z3 := Lm.size_mem (mem_of_get ha)
  repeat' (first | (with_reducible first | refine W ?_ | refine Z0 ?_) | refine Cg _ (ih _ (Lm.lt_of_sub (mem_of_get ha)) a (by omega) rfl) ?_ | ((with_reducible first | refine Wo (fun K hK => ?_) | refine Wq ?_ | refine Wr ?_); (try simp only [go_sem, fN, seval, eT, iR, e3, e7, e8, e9, s5, ha]); (repeat with_reducible refine Ai ?_); (try (refine hK _ ?_; clear hK K))))
  refine then_normal ⟨t.subs.length - (k + 1), by omega, k + 1, by omega, rfl, ?_⟩
  simp only [go_sem, fN, seval, AS.drop, dropS, AC.clears, AC.clear, AC.highs, AC.high, Bool.not_false, Bool.true_and, Bool.and_self, AV.purge, AV.purges, AC.purge, ABlk.purge, List.contains_cons, List.contains_nil, Nat.reduceBEq, Bool.or_self, Bool.or_false, Bool.false_or, Bool.or_true, eT, iR, e3, e7, e8, e9, s5]
  exact ⟨by rw [z1]; congr 3; omega, by congr 3⟩
 ·repeat' (first | (with_reducible first | refine W ?_ | refine Z0 ?_) | ((with_reducible first | refine Wo (fun K hK => ?_) | refine Wq ?_ | refine Wr ?_); (try simp only [go_sem, fN, seval, eT, iR, e3]); (repeat with_reducible refine Ai ?_); (try (refine hK _ ?_; clear hK K))))
  simp only [go_sem, fN, seval, FinQ, AS.result, resAll, resOne, tupV, e3]
  rw [List.take_of_length_le (by omega), hs]
theorem lsizeR_a (t : Lm) (m : Int) (h0 : 0 ≤ m) (h1 : m ≤ 9223372036854775806) : ACalls Tryz.prog 10 [aLm t, aInt m] (aInt (capTo t.size m)) := by
 induction h : SizeOf.sizeOf t using Nat.strongRecOn generalizing t m with
 | _ N ih =>
 subst h
 have hs := Lm.size_eq t
 refine ok_R_LamSize.ac fun C hC => ?_
 unfold ir_R_LamSize
 refine IWP.learn 0 (by omega) fun hkn => ?_
 have hkn := (known_lm hkn).2.2
 repeat' (first | (with_reducible first | refine W ?_ | refine Z0 ?_) | ((with_reducible first | refine Wo (fun K hK => ?_) | refine Wq ?_ | refine Wr ?_); (try simp only [go_sem, fN, seval, eT, iR]); (repeat with_reducible refine Ai ?_); (try (refine hK _ ?_; clear hK K))))
 refine IWP.loop (fun n s => ∃ k, k ≤ t.subs.length ∧ n = t.subs.length - k ∧ s.env 5 = aInt (capTo (1 + Lm.sizes (t.subs.take k)) m) ∧ s.env 1 = aInt m ∧ s.env 2 = .one (.ptr 2 1 0 0) ∧ s.env 6 = aInt k ∧ s.S 2 = some (.box 24 [.st (.int .i64 t.kind), .st (.int .i64 t.idx), .st (.list (t.subs.map encL))])) t.subs.length ⟨0, Nat.zero_le _, rfl, by
  simp only [go_sem, fN, seval, eT, iR]
  rw [capTo]
  have z0 : Lm.sizes [] = 0 := rfl
  congr 3
  split <;> omega, rfl, rfl, rfl, rfl⟩ ?_
 rintro n ⟨env, S⟩ ⟨k, hk, rfl, e5, e1, e2, e6, s2⟩
 simp only at e5 e1 e2 e6 s2
 have z4 := capTo_le (1 + Lm.sizes (t.subs.take k)) m h0
 by_cases hlt : (k : Int) < t.subs.length
 ·obtain ⟨a, ha⟩ := get_lt (show k < t.subs.length by omega)
  have z1 := Lm.sizes_take ha
  have z2 := Lm.sizes_take_le t.subs (k + 1)
  by_cases hb : m < capTo (1 + Lm.sizes (t.subs.take k)) m
  ·have hb' : ¬ capTo (1 + Lm.sizes (t.subs.take k)) m ≤ m := by omega
   repeat' (first | (with_reducible first | refine W ?_ | refine Z0 ?_) | ((with_reducible first | refine Wo (fun K hK => ?_) | refine Wq ?_ | refine Wr ?_); (try simp only [go_sem, fN, seval, eT, iR, e5, e1, e2, e6, s2, hlt, hb']); (repeat with_reducible refine Ai ?_); (try (refine hK _ ?_; clear hK K))))
   with_reducible refine Wp ?_
   simp only [go_sem, fN, seval, true_implies, false_implies, implies_true, dT, dF, nL, hb']
   (try with_reducible refine iC ?_)
   repeat' (first | (with_reducible first | refine W ?_ | refine Z0 ?_) | ((with_reducible first | refine Wo (fun K hK => ?_) | refine Wq ?_ | refine Wr ?_); (try simp only [go_sem, fN, seval, eT, iR, e5, e1, e2, e6, s2]); (repeat with_reducible refine Ai ?_); (try (refine hK _ ?_; clear hK K))))
   with_reducible refine Wp ?_
   simp only [go_sem, fN, seval, true_implies, false_implies, implies_true, dT, dF, nL, hb]
   (try with_reducible refine iC ?_)
   repeat' (first | (with_reducible first | refine W ?_ | refine Z0 ?_) | ((with_reducible first | refine Wo (fun K hK => ?_) | refine Wq ?_ | refine Wr ?_); (try simp only [go_sem, fN, seval, eT, iR, e1]); (repeat with_reducible refine Ai ?_); (try (refine hK _ ?_; clear hK K))))
   simp only [go_sem, fN, seval, FinQ, AS.result, resAll, resOne, tupV]
   rw [capTo_over hb (show _ ≤ t.size by rw [hs]; omega)]
  ·have hb' : capTo (1 + Lm.sizes (t.subs.take k)) m ≤ m := by omega
   obtain ⟨b1, b2⟩ := capTo_in hb
   repeat' (first | (with_reducible first | refine W ?_ | refine Z0 ?_) | ((with_reducible first | refine Wo (fun K hK => ?_) | refine Wq ?_ | refine Wr ?_); (try simp only [go_sem, fN, seval, eT, iR, e5, e1, e2, e6, s2, hlt, hb']); (repeat with_reducible refine Ai ?_); (try (refine hK _ ?_; clear hK K))))
   with_reducible refine Wp ?_
   simp only [go_sem, fN, seval, true_implies, false_implies, implies_true, dT, dF, nL, hb']
   (try with_reducible refine iC ?_)
   repeat' (first | (with_reducible first | refine W ?_ | refine Z0 ?_) | ((with_reducible first | refine Wo (fun K hK => ?_) | refine Wq ?_ | refine Wr ?_); (try simp only [go_sem, fN, seval, eT, iR, e5, e1, e2, e6, s2, ha]); (repeat with_reducible refine Ai ?_); (try (refine hK _ ?_; clear hK K))))
   refine ⟨_, ih _ (Lm.lt_of_sub (mem_of_get ha)) a (m - capTo (1 + Lm.sizes (t.subs.take k)) m) (by omega) (by omega) rfl, ?_⟩
   have z5 := capTo_le a.size (m - capTo (1 + Lm.sizes (t.subs.take k)) m) (by omega)
   repeat' (first | (with_reducible first | refine W ?_ | refine Z0 ?_) | ((with_reducible first | refine Wo (fun K hK => ?_) | refine Wq ?_ | refine Wr ?_); (try simp only [go_sem, fN, seval, eT, iR, e5, e1, e2, e6, s2]); (repeat with_reducible refine Ai ?_); (try (refine hK _ ?_; clear hK K))))
   refine then_normal ⟨t.subs.length - (k + 1), by omega, k + 1, by omega, rfl, ?_⟩
   simp only [go_sem, fN, seval, eT, iR, e5, e1, e2, e6, s2]
   exact ⟨by rw [b1, capTo_step b2, z1]; congr 4; omega, by congr 3⟩
 ·repeat' (first | (with_reducible first | refine W ?_ | refine Z0 ?_) | ((with_reducible first | refine Wo (fun K hK => ?_) | refine Wq ?_ | refine Wr ?_); (try simp only [go_sem, fN, seval, eT, iR, e5, e1, e2, e6, s2, hlt]); (repeat with_reducible refine Ai ?_); (try (refine hK _ ?_; clear hK K))))
  with_reducible refine Wp ?_
  simp only [go_sem, fN, seval, true_implies, false_implies, implies_true, dT, dF, nL]
  (try with_reducible refine iC ?_)
  have hfull : 1 + Lm.sizes (t.subs.take k) = t.size := by rw [List.take_of_length_le (by omega), hs]
  rw [hfull] at e5 z4
  repeat' (first | (with_reducible first | refine W ?_ | refine Z0 ?_) | ((with_reducible first | refine Wo (fun K hK => ?_) | refine Wq ?_ | refine Wr ?_); (try simp only [go_sem, fN, seval, eT, iR, e5, e1]); (repeat with_reducible refine Ai ?_); (try (refine hK _ ?_; clear hK K))))
  by_cases hb : m < capTo t.size m
  ·with_reducible refine Wp ?_
   simp only [go_sem, fN, seval, true_implies, false_implies, implies_true, dT, dF, nL, hb]
   (try with_reducible refine iC ?_)
   repeat' (first | (with_reducible first | refine W ?_ | refine Z0 ?_) | ((with_reducible first | refine Wo (fun K hK => ?_) | refine Wq ?_ | refine Wr ?_); (try simp only [go_sem, fN, seval, eT, iR, e1]); (repeat with_reducible refine Ai ?_); (try (refine hK _ ?_; clear hK K))))
   simp only [go_sem, fN, seval, FinQ, AS.result, resAll, resOne, tupV]
   rw [capTo_over hb (Nat.le_refl _)]
  ·with_reducible refine Wp ?_
   simp only [go_sem, fN, seval, true_implies, false_implies, implies_true, dT, dF, nL, hb]
   (try with_reducible refine iC ?_)
   repeat' (first | (with_reducible first | refine W ?_ | refine Z0 ?_) | ((with_reducible first | refine Wo (fun K hK => ?_) | refine Wq ?_ | refine Wr ?_); (try simp only [go_sem, fN, seval, eT, iR, e5]); (repeat with_reducible refine Ai ?_); (try (refine hK _ ?_; clear hK K))))
   simp only [go_sem, fN, seval, FinQ, AS.result, resAll, resOne, tupV, e5]
theorem kinds_of {k : Int} (h : 1 ≤ k ∧ k ≤ 5) : k = 1 ∨ k = 2 ∨ k = 3 ∨ k = 4 ∨ k = 5 := by omega
set_option maxHeartbeats 1000000 in
theorem lcheck_a (t : Lm) (u m : Int) (hu : 0 ≤ u) (hz : u + t.size ≤ 1000000000) : ACalls Tryz.prog 106 [aLm t, aInt u, aInt m] (aInt (t.chk m u)) := by
 induction h : SizeOf.sizeOf t using Nat.strongRecOn generalizing t u with
 | _ N ih =>
 subst h
 have hs := Lm.size_eq t
 have hlen := Lm.length_le t.subs
 refine ok_lambda_check.ac fun C hC => ?_
 unfold ir_lambda_check
 by_cases hk : 1 ≤ t.kind ∧ t.kind ≤ 5
 case neg =>
  rw [Lm.chk_eq, if_neg (fun h => hk ⟨h.1, h.2.1⟩)]
  by_cases h1 : t.kind < 1
  ·repeat' (first | (with_reducible first | refine W ?_ | refine Z0 ?_) | ((with_reducible first | refine Wo (fun K hK => ?_) | refine Wp ?_ | refine Wq ?_ | refine Wr ?_); (try simp only [go_sem, fN, seval, eT, iR, h1, dT, dF, nL]); (repeat with_reducible refine Ai ?_); (try (refine hK _ ?_; clear hK K)); try with_reducible refine iC ?_))
   simp only [go_sem, fN, seval, FinQ, AS.result, resAll, resOne, tupV]
  ·have h5 : 5 < t.kind := by omega
   repeat' (first | (with_reducible first | refine W ?_ | refine Z0 ?_) | ((with_reducible first | refine Wo (fun K hK => ?_) | refine Wp ?_ | refine Wq ?_ | refine Wr ?_); (try simp only [go_sem, fN, seval, eT, iR, h1, h5, dT, dF, nL]); (repeat with_reducible refine Ai ?_); (try (refine hK _ ?_; clear hK K)); try with_reducible refine iC ?_))
   simp only [go_sem, fN, seval, FinQ, AS.result, resAll, resOne, tupV]
 case pos =>
 have hk5 := kinds_of hk
 have q1 : ¬ t.kind < 1 := by omega
 have q5 : ¬ 5 < t.kind := by omega
 by_cases hl : (t.subs.length : Int) = nSubs t.kind
 case neg =>
  rw [Lm.chk_eq, if_neg (fun h => hl h.2.2)]
  rcases hk5 with hk5 | hk5 | hk5 | hk5 | hk5
  all_goals
   simp only [hk5, nSubs, Int.reduceEq, ↓reduceIte] at hl
   repeat' (first | (with_reducible first | refine W ?_ | refine Z0 ?_) | ((with_reducible first | refine Wo (fun K hK => ?_) | refine Wp ?_ | refine Wq ?_ | refine Wr ?_); (try simp only [go_sem, fN, seval, eT, iR, hk5, hl, dT, dF, nL]); (repeat with_reducible refine Ai ?_); (try (refine hK _ ?_; clear hK K)); try with_reducible refine iC ?_))
   simp only [go_sem, fN, seval, FinQ, AS.result, resAll, resOne, tupV]
 case pos =>
 by_cases h0 : t.idx < 0
 case pos =>
  rw [Lm.chk_eq, if_pos ⟨hk.1, hk.2, hl⟩, if_neg (fun h => by omega)]
  rcases hk5 with hk5 | hk5 | hk5 | hk5 | hk5
  all_goals
   simp only [hk5, nSubs, Int.reduceEq, ↓reduceIte] at hl
   repeat' (first | (with_reducible first | refine W ?_ | refine Z0 ?_) | ((with_reducible first | refine Wo (fun K hK => ?_) | refine Wp ?_ | refine Wq ?_ | refine Wr ?_); (try simp only [go_sem, fN, seval, eT, iR, hk5, hl, h0, dT, dF, nL]); (repeat with_reducible refine Ai ?_); (try (refine hK _ ?_; clear hK K)); try with_reducible refine iC ?_))
   simp only [go_sem, fN, seval, FinQ, AS.result, resAll, resOne, tupV]
 case neg =>
 by_cases hm : mostIdx t.kind u m ≤ t.idx
 case pos =>
  rw [Lm.chk_eq, if_pos ⟨hk.1, hk.2, hl⟩, if_neg (fun h => by omega)]
  rcases hk5 with hk5 | hk5 | hk5 | hk5 | hk5
  all_goals
   simp only [hk5, nSubs, mostIdx, Int.reduceEq, ↓reduceIte] at hl hm
   repeat' (first | (with_reducible first | refine W ?_ | refine Z0 ?_) | ((with_reducible first | refine Wo (fun K hK => ?_) | refine Wp ?_ | refine Wq ?_ | refine Wr ?_); (try simp only [go_sem, fN, seval, eT, iR, hk5, hl, h0, hm, dT, dF, nL]); (repeat with_reducible refine Ai ?_); (try (refine hK _ ?_; clear hK K)); try with_reducible refine iC ?_))
   simp only [go_sem, fN, seval, FinQ, AS.result, resAll, resOne, tupV]
 case neg =>
 rw [Lm.chk_eq, if_pos ⟨hk.1, hk.2, hl⟩, if_pos (by omega)]
 rcases hk5 with hk5 | hk5 | hk5 | hk5 | hk5
 all_goals
  simp only [hk5, nSubs, mostIdx, Int.reduceEq, ↓reduceIte] at hl hm
  repeat' (first | (with_reducible first | refine W ?_ | refine Z0 ?_) | ((with_reducible first | refine Wo (fun K hK => ?_) | refine Wp ?_ | refine Wq ?_ | refine Wr ?_); (try simp only [go_sem, fN, seval, eT, iR, hk5, hl, h0, hm, dT, dF, nL]); (repeat with_reducible refine Ai ?_); (try (refine hK _ ?_; clear hK K)); try with_reducible refine iC ?_))
  refine IWP.loopD [9] (fun n s => ∃ k, k ≤ t.subs.length ∧ n = t.subs.length - k ∧ Lm.chks m (t.subs.take k) (under t.kind u) = 0 ∧ s.env 1 = aInt (under t.kind u) ∧ s.env 2 = aInt m ∧ s.env 54 = .one (.st (.list (t.subs.map encL))) ∧ s.env 55 = aInt t.subs.length ∧ s.env 56 = aInt k ∧ s.S 9 = none) t.subs.length ⟨0, Nat.zero_le _, rfl, rfl, by simp only [hk5, under]; rfl, rfl, rfl, by simp only [go_sem, fN, seval, eT, iR, hl], rfl, rfl⟩ ?_
  rintro n ⟨env, S⟩ ⟨k, hk', rfl, hc, e1, e2, e54, e55, e56, s9⟩
  simp only at e1 e2 e54 e55 e56 s9
  by_cases hlt : (k : Int) < t.subs.length
  ·obtain ⟨a, ha⟩ := get_lt (show k < t.subs.length by omega)
   have z3 := Lm.size_mem (mem_of_get ha)
   have hu2 : under t.kind u ≤ u + 1 ∧ 0 ≤ under t.kind u := by unfold under; split <;> omega
   repeat' (first | (with_reducible first | refine W ?_ | refine Z0 ?_) | ((with_reducible first | refine Wo (fun K hK => ?_) | refine Wp ?_ | refine Wq ?_ | refine Wr ?_); (try simp only [go_sem, fN, seval, eT, iR, e1, e2, e54, e55, e56, s9, ha, hlt, dT, dF, nL]); (repeat with_reducible refine Ai ?_); (try (refine hK _ ?_; clear hK K)); try with_reducible refine iC ?_))
   refine ⟨_, ih _ (Lm.lt_of_sub (mem_of_get ha)) a (under t.kind u) hu2.2 (by omega) rfl, ?_⟩
   by_cases hr : a.chk m (under t.kind u) = 0
   ·repeat' (first | (with_reducible first | refine W ?_ | refine Z0 ?_) | ((with_reducible first | refine Wo (fun K hK => ?_) | refine Wp ?_ | refine Wq ?_ | refine Wr ?_); (try simp only [go_sem, fN, seval, eT, iR, e1, e2, e54, e55, e56, s9, hr, dT, dF, nL]); (repeat with_reducible refine Ai ?_); (try (refine hK _ ?_; clear hK K)); try with_reducible refine iC ?_))
    refine then_normal ⟨t.subs.length - (k + 1), by omega, k + 1, by omega, rfl, ?_⟩
    simp only [go_sem, fN, seval, AS.drop, dropS, AC.clears, AC.clear, AC.highs, AC.high, Bool.not_false, Bool.true_and, Bool.and_self, AV.purge, AV.purges, AC.purge, ABlk.purge, List.contains_cons, List.contains_nil, Nat.reduceBEq, Bool.or_self, Bool.or_false, Bool.false_or, Bool.or_true, eT, iR, e1, e2, e54, e55, e56, s9]
    exact ⟨by rw [Lm.chks_take ha hc, hr], by congr 3⟩
   ·repeat' (first | (with_reducible first | refine W ?_ | refine Z0 ?_) | ((with_reducible first | refine Wo (fun K hK => ?_) | refine Wp ?_ | refine Wq ?_ | refine Wr ?_); (try simp only [go_sem, fN, seval, eT, iR, e1, e2, e54, e55, e56, s9, hr, dT, dF, nL]); (repeat with_reducible refine Ai ?_); (try (refine hK _ ?_; clear hK K)); try with_reducible refine iC ?_))
    simp only [go_sem, fN, seval, FinQ, AS.result, resAll, resOne, tupV]
    simp only [hk5] at hc hr ⊢
    rw [Lm.chks_bad (k := k + 1) (by rw [Lm.chks_take ha hc]; exact hr), Lm.chks_take ha hc]
  ·repeat' (first | (with_reducible first | refine W ?_ | refine Z0 ?_) | ((with_reducible first | refine Wo (fun K hK => ?_) | refine Wp ?_ | refine Wq ?_ | refine Wr ?_); (try simp only [go_sem, fN, seval, eT, iR, e1, e2, e54, e55, e56, s9, hlt, dT, dF, nL]); (repeat with_reducible refine Ai ?_); (try (refine hK _ ?_; clear hK K)); try with_reducible refine iC ?_))
   simp only [go_sem, fN, seval, FinQ, AS.result, resAll, resOne, tupV]
   rw [List.take_of_length_le (by omega)] at hc
   simp only [hk5] at hc ⊢
   rw [hc]
theorem lessBy_neg_iff {s : Nat} {m : Int} (h : 0 ≤ m) : lessBy s m < 0 ↔ m < s := by
 unfold lessBy
 split <;> omega
theorem lcheckWith_a (t : Lm) (u m : Int) : ACalls Tryz.prog 91 [aLm t, aInt u, aInt m] (aInt (t.may m u)) := by
 refine ok_lambda_CheckWith.ac fun C hC => ?_
 unfold ir_lambda_CheckWith
 unfold Lm.may
 by_cases h0 : u < 0
 ·rw [if_pos (Or.inl h0)]
  repeat' (first | (with_reducible first | refine W ?_ | refine Z0 ?_) | ((with_reducible first | refine Wo (fun K hK => ?_) | refine Wp ?_ | refine Wq ?_ | refine Wr ?_); (try simp only [go_sem, fN, seval, eT, iR, h0, dT, dF, nL]); (repeat with_reducible refine Ai ?_); (try (refine hK _ ?_; clear hK K)); try with_reducible refine iC ?_))
  simp only [go_sem, fN, seval, FinQ, AS.result, resAll, resOne, tupV]
 by_cases h1 : 40 < u
 ·rw [if_pos (Or.inr h1)]
  repeat' (first | (with_reducible first | refine W ?_ | refine Z0 ?_) | ((with_reducible first | refine Wo (fun K hK => ?_) | refine Wp ?_ | refine Wq ?_ | refine Wr ?_); (try simp only [go_sem, fN, seval, eT, iR, h0, h1, dT, dF, nL]); (repeat with_reducible refine Ai ?_); (try (refine hK _ ?_; clear hK K)); try with_reducible refine iC ?_))
  simp only [go_sem, fN, seval, FinQ, AS.result, resAll, resOne, tupV]
 rw [if_neg (by omega)]
 have hw := @lessBy_neg_iff t.size 200 (by decide)
 by_cases hz : 200 < t.size
 ·have hz' := hw.2 (by omega)
  rw [if_pos hz]
  repeat' (first | (with_reducible first | refine W ?_ | refine Z0 ?_) | refine Cg _ (lwithin_a t 200 (by decide) (by decide)) ?_ | ((with_reducible first | refine Wo (fun K hK => ?_) | refine Wp ?_ | refine Wq ?_ | refine Wr ?_); (try simp only [go_sem, fN, seval, eT, iR, h0, h1, hz', dT, dF, nL]); (repeat with_reducible refine Ai ?_); (try (refine hK _ ?_; clear hK K)); try with_reducible refine iC ?_))
  simp only [go_sem, fN, seval, FinQ, AS.result, resAll, resOne, tupV]
 ·have hz' : ¬ lessBy t.size 200 < 0 := fun h => hz (by have := hw.1 h; omega)
  rw [if_neg hz]
  repeat' (first | (with_reducible first | refine W ?_ | refine Z0 ?_) | refine Cg _ (lwithin_a t 200 (by decide) (by decide)) ?_ | refine Cg _ (lcheck_a t u m (by omega) (by omega)) ?_ | ((with_reducible first | refine Wo (fun K hK => ?_) | refine Wp ?_ | refine Wq ?_ | refine Wr ?_); (try simp only [go_sem, fN, seval, eT, iR, h0, h1, hz', dT, dF, nL]); (repeat with_reducible refine Ai ?_); (try (refine hK _ ?_; clear hK K)); try with_reducible refine iC ?_))
  simp only [go_sem, fN, seval, FinQ, AS.result, resAll, resOne, tupV]
theorem lCheck_a (t : Lm) (u : Int) : ACalls Tryz.prog 76 [aLm t, aInt u] (aInt (t.may 0 u)) := by
 refine ok_lambda_Check.ac fun C hC => ?_
 unfold ir_lambda_Check
 repeat' (first | (with_reducible first | refine W ?_ | refine Z0 ?_) | refine Cg _ (lcheckWith_a t u 0) ?_ | ((with_reducible first | refine Wo (fun K hK => ?_) | refine Wp ?_ | refine Wq ?_ | refine Wr ?_); (try simp only [go_sem, fN, seval, eT, iR, dT, dF, nL]); (repeat with_reducible refine Ai ?_); (try (refine hK _ ?_; clear hK K)); try with_reducible refine iC ?_))
 simp only [go_sem, fN, seval, FinQ, AS.result, resAll, resOne, tupV]

theorem lV_a (i : Int) : ACalls Tryz.prog 64 [aInt i] (aLm (.mk 1 i [])) := by
 refine ok_lambda_V.ac fun C hC => ?_
 unfold ir_lambda_V
 repeat' (first | (with_reducible first | refine W ?_ | refine Z0 ?_) | ((with_reducible first | refine Wo (fun K hK => ?_) | refine Wp ?_ | refine Wq ?_ | refine Wr ?_); (try simp only [go_sem, fN, seval, eT, iR, dT, dF, nL]); (repeat with_reducible refine Ai ?_); (try (refine hK _ ?_; clear hK K)); try with_reducible refine iC ?_))
 simp only [go_sem, fN, seval, FinQ, AS.result, resAll, resOne, tupV]
 rfl
theorem lVar_a (i : Int) : ACalls Tryz.prog 34 [aInt i] (aLm (.mk 1 i [])) := by
 refine ok_R_Var.ac fun C hC => ?_
 unfold ir_R_Var
 repeat' (first | (with_reducible first | refine W ?_ | refine Z0 ?_) | ((with_reducible first | refine Wo (fun K hK => ?_) | refine Wp ?_ | refine Wq ?_ | refine Wr ?_); (try simp only [go_sem, fN, seval, eT, iR, dT, dF, nL]); (repeat with_reducible refine Ai ?_); (try (refine hK _ ?_; clear hK K)); try with_reducible refine iC ?_))
 simp only [go_sem, fN, seval, FinQ, AS.result, resAll, resOne, tupV]
 rfl
theorem lmove_a (t : Lm) (b d : Int) (hg : t.good 1000000000) (hb : -1 ≤ b ∧ b ≤ 1000000000) (hd : 0 ≤ d) (hz : d + t.size ≤ 1000000000) : ACalls Tryz.prog 63 [aLm t, aInt b, aInt d] (aLm (Lm.mv b d t)) := by
 induction h : SizeOf.sizeOf t using Nat.strongRecOn generalizing t d with
 | _ N ih =>
 subst h
 have hs := Lm.size_eq t
 have hlen := Lm.length_le t.subs
 obtain ⟨g1, g2, g3, g4⟩ := (Lm.good_eq _ _).1 hg
 have hu2 : under t.kind d ≤ d + 1 ∧ 0 ≤ under t.kind d := by unfold under; split <;> omega
 rw [Lm.mv_eq]
 have hcase : (t.kind = 1 ∧ d ≤ t.idx) ∨ (t.kind = 1 ∧ ¬ d ≤ t.idx) ∨ (¬ t.kind = 1 ∧ t.kind = 2) ∨ (¬ t.kind = 1 ∧ ¬ t.kind = 2) := by omega
 rcases hcase with ⟨k1, k2⟩ | ⟨k1, k2⟩ | ⟨k1, k2⟩ | ⟨k1, k2⟩
 all_goals
  refine ok_lambda_Move.ac fun C hC => ?_
  unfold ir_lambda_Move
  repeat' (first | (with_reducible first | refine W ?_ | refine Z0 ?_) | ((with_reducible first | refine Wo (fun K hK => ?_) | refine Wp ?_ | refine Wq ?_ | refine Wr ?_); (try simp only [go_sem, fN, seval, eT, iR, k1, k2, dT, dF, nL]); (repeat with_reducible refine Ai ?_); (try (refine hK _ ?_; clear hK K)); try with_reducible refine iC ?_))
  refine IWP.ghost (Ghost.ownC 7 2 21 24 3 (xs := ([] : List Lm).map encL) rfl rfl rfl lens_encL) ?_
  refine IWP.loopD [9] (fun n s => ∃ k, k ≤ t.subs.length ∧ n = t.subs.length - k ∧ s.env 1 = aInt b ∧ s.env 2 = aInt (under t.kind d) ∧ s.env 6 = .one (.ptr 6 1 0 0) ∧ s.env 7 = .one (.ptr 7 1 0 0) ∧ s.S 6 = some (.box 24 [.st (.int .i64 0), .st (.int .i64 0), .full []])
   ∧ s.S 7 = some (.box 24 [.st (.int .i64 t.kind), .st (.int .i64 (if t.kind = 1 ∧ d ≤ t.idx then t.idx + b else t.idx)), .row 21 k]) ∧ s.S 21 = some (.arow 24 3 (((t.subs.take k).map (Lm.mv b (under t.kind d))).map encL)) ∧ s.env 33 = .one (.st (.list (t.subs.map encL))) ∧ s.env 34 = aInt t.subs.length ∧ s.env 35 = aInt k ∧ s.S 9 = none) t.subs.length
   ⟨0, Nat.zero_le _, rfl, rfl, by simp only [k1, k2, under, Int.reduceEq, ↓reduceIte]; rfl, rfl, rfl, rfl, by simp only [k1, k2, and_self, and_false, and_true, true_and, false_and, if_true, if_false, not_false_eq_true, Int.reduceEq, ↓reduceIte]; rfl, rfl, rfl, rfl, rfl, rfl⟩ ?_
  rintro n ⟨env, S⟩ ⟨k, hk', rfl, e1, e2, e6, e7, s6, s7, s21, e33, e34, e35, s9⟩
  simp only at e1 e2 e6 e7 s6 s7 s21 e33 e34 e35 s9
  have hlk : (t.subs.take k).length = k := by rw [List.length_take]; omega
  by_cases hlt : (k : Int) < t.subs.length
  ·obtain ⟨a, ha⟩ := get_lt (show k < t.subs.length by omega)
   have z3 := Lm.size_mem (mem_of_get ha)
   repeat' (first | (with_reducible first | refine W ?_ | refine Z0 ?_) | refine Cg _ (ih _ (Lm.lt_of_sub (mem_of_get ha)) a (under t.kind d) (Lm.good_sub hg (mem_of_get ha)) hu2.2 (by omega) rfl) ?_ | ((with_reducible first | refine Wo (fun K hK => ?_) | refine Wp ?_ | refine Wq ?_ | refine Wr ?_); (try simp only [go_sem, fN, seval, eT, iR, e1, e2, e6, e7, s6, s7, s21, e33, e34, e35, s9, ha, hlt, hlk, dT, dF, nL]); (repeat with_reducible refine Ai ?_); (try (refine hK _ ?_; clear hK K)); try with_reducible refine iC ?_))
   refine then_normal ⟨t.subs.length - (k + 1), by omega, k + 1, by omega, rfl, ?_⟩
   simp only [go_sem, fN, seval, AS.drop, dropS, AC.clears, AC.clear, AC.highs, AC.high, Bool.not_false, Bool.true_and, Bool.and_self, AV.purge, AV.purges, AC.purge, ABlk.purge, List.contains_cons, List.contains_nil, Nat.reduceBEq, Bool.or_self, Bool.or_false, Bool.false_or, Bool.or_true, eT, iR, e1, e2, e6, e7, s6, s7, s21, e33, e34, e35, s9]
   exact ⟨by rw [take_snoc ha]; simp [encL_eq], by congr 3⟩
  ·repeat' (first | (with_reducible first | refine W ?_ | refine Z0 ?_) | ((with_reducible first | refine Wo (fun K hK => ?_) | refine Wp ?_ | refine Wq ?_ | refine Wr ?_); (try simp only [go_sem, fN, seval, eT, iR, e1, e2, e6, e7, s6, s7, s21, e33, e34, e35, s9, hlt, dT, dF, nL]); (repeat with_reducible refine Ai ?_); (try (refine hK _ ?_; clear hK K)); try with_reducible refine iC ?_))
   have hall : t.subs.take k = t.subs := List.take_of_length_le (by omega)
   rw [hall] at s21
   have hkl : k = t.subs.length := by omega
   simp only [go_sem, fN, seval, FinQ, AS.result, resAll, resOne, tupV, e6, s6, s7, s21, hkl]
   simp [k1, k2, Lm.kind_mk, Lm.idx_mk, Lm.subs_mk]
theorem lhigher_a (t : Lm) (b d : Int) (hg : t.good 1000000000) (hb : -1 ≤ b ∧ b ≤ 1000000000) (hd : 0 ≤ d) (hz : d + t.size ≤ 1000000000) : ACalls Tryz.prog 33 [aLm t, aInt b, aInt d] (aLm (Lm.mv b d t)) := by
 induction h : SizeOf.sizeOf t using Nat.strongRecOn generalizing t d with
 | _ N ih =>
 subst h
 have hs := Lm.size_eq t
 have hlen := Lm.length_le t.subs
 obtain ⟨g1, g2, g3, g4⟩ := (Lm.good_eq _ _).1 hg
 have hu2 : under t.kind d ≤ d + 1 ∧ 0 ≤ under t.kind d := by unfold under; split <;> omega
 rw [Lm.mv_eq]
 by_cases k1 : t.kind = 1
 ·have g1 := g1 k1
  by_cases k2 : t.idx < d
  ·have k3 : ¬ d ≤ t.idx := by omega
   refine ok_R_Higher.ac fun C hC => ?_
   unfold ir_R_Higher
   repeat' (first | (with_reducible first | refine W ?_ | refine Z0 ?_) | ((with_reducible first | refine Wo (fun K hK => ?_) | refine Wp ?_ | refine Wq ?_ | refine Wr ?_); (try simp only [go_sem, fN, seval, eT, iR, k1, k2, dT, dF, nL]); (repeat with_reducible refine Ai ?_); (try (refine hK _ ?_; clear hK K)); try with_reducible refine iC ?_))
   simp only [go_sem, fN, seval, FinQ, AS.result, resAll, resOne, tupV]
   simp [k1, k3, g1, Lm.kind_mk, Lm.idx_mk, Lm.subs_mk]
  ·have k3 : d ≤ t.idx := by omega
   refine ok_R_Higher.ac fun C hC => ?_
   unfold ir_R_Higher
   repeat' (first | (with_reducible first | refine W ?_ | refine Z0 ?_) | refine Cg _ (lVar_a (t.idx + b)) ?_ | ((with_reducible first | refine Wo (fun K hK => ?_) | refine Wp ?_ | refine Wq ?_ | refine Wr ?_); (try simp only [go_sem, fN, seval, eT, iR, k1, k2, dT, dF, nL]); (repeat with_reducible refine Ai ?_); (try (refine hK _ ?_; clear hK K)); try with_reducible refine iC ?_))
   simp only [go_sem, fN, seval, FinQ, AS.result, resAll, resOne, tupV]
   simp [k1, k3, g1, Lm.kind_mk, Lm.idx_mk, Lm.subs_mk]
 have hcase : t.kind = 2 ∨ ¬ t.kind = 2 := by omega
 rcases hcase with k2 | k2
 all_goals
  refine ok_R_Higher.ac fun C hC => ?_
  unfold ir_R_Higher
  repeat' (first | (with_reducible first | refine W ?_ | refine Z0 ?_) | ((with_reducible first | refine Wo (fun K hK => ?_) | refine Wp ?_ | refine Wq ?_ | refine Wr ?_); (try simp only [go_sem, fN, seval, eT, iR, k1, k2, dT, dF, nL]); (repeat with_reducible refine Ai ?_); (try (refine hK _ ?_; clear hK K)); try with_reducible refine iC ?_))
  refine IWP.ghost (Ghost.ownC 7 2 21 24 3 (xs := ([] : List Lm).map encL) rfl rfl rfl lens_encL) ?_
  refine IWP.loop (fun n s => ∃ k, k ≤ t.subs.length ∧ n = t.subs.length - k ∧ s.env 1 = aInt b ∧ s.env 2 = aInt (under t.kind d) ∧ s.env 3 = .one (.ptr 3 1 0 0) ∧ s.env 6 = .one (.ptr 6 1 0 0) ∧ s.env 7 = .one (.ptr 7 1 0 0) ∧ s.S 3 = some (.box 24 [.st (.int .i64 t.kind), .st (.int .i64 t.idx), .st (.list (t.subs.map encL))]) ∧ s.S 6 = some (.box 24 [.st (.int .i64 0), .st (.int .i64 0), .full []])
   ∧ s.S 7 = some (.box 24 [.st (.int .i64 t.kind), .st (.int .i64 t.idx), .row 21 k]) ∧ s.S 21 = some (.arow 24 3 (((t.subs.take k).map (Lm.mv b (under t.kind d))).map encL)) ∧ s.env 8 = aInt k) t.subs.length
   ⟨0, Nat.zero_le _, rfl, rfl, by simp only [k1, k2, under, Int.reduceEq, ↓reduceIte]; rfl, rfl, rfl, rfl, by first | rfl | (simp only [k1, k2]; rfl), rfl, by first | rfl | (simp only [k1, k2]; rfl), rfl, rfl⟩ ?_
  rintro n ⟨env, S⟩ ⟨k, hk', rfl, e1, e2, e3, e6, e7, s3, s6, s7, s21, e8⟩
  simp only at e1 e2 e3 e6 e7 s3 s6 s7 s21 e8
  have hlk : (t.subs.take k).length = k := by rw [List.length_take]; omega
  by_cases hlt : (k : Int) < t.subs.length
  ·obtain ⟨a, ha⟩ := get_lt (show k < t.subs.length by omega)
   have z3 := Lm.size_mem (mem_of_get ha)
   repeat' (first | (with_reducible first | refine W ?_ | refine Z0 ?_) | refine Cg _ (ih _ (Lm.lt_of_sub (mem_of_get ha)) a (under t.kind d) (Lm.good_sub hg (mem_of_get ha)) hu2.2 (by omega) rfl) ?_ | ((with_reducible first | refine Wo (fun K hK => ?_) | refine Wp ?_ | refine Wq ?_ | refine Wr ?_); (try simp only [go_sem, fN, seval, eT, iR, e1, e2, e3, e6, e7, s3, s6, s7, s21, e8, ha, hlt, hlk, dT, dF, nL]); (repeat with_reducible refine Ai ?_); (try (refine hK _ ?_; clear hK K)); try with_reducible refine iC ?_))
   refine then_normal ⟨t.subs.length - (k + 1), by omega, k + 1, by omega, rfl, ?_⟩
   simp only [go_sem, fN, seval, eT, iR, e1, e2, e3, e6, e7, s3, s6, s7, s21, e8]
   exact ⟨by rw [take_snoc ha]; simp [encL_eq], by congr 3⟩
  ·repeat' (first | (with_reducible first | refine W ?_ | refine Z0 ?_) | ((with_reducible first | refine Wo (fun K hK => ?_) | refine Wp ?_ | refine Wq ?_ | refine Wr ?_); (try simp only [go_sem, fN, seval, eT, iR, e1, e2, e3, e6, e7, s3, s6, s7, s21, e8, hlt, dT, dF, nL]); (repeat with_reducible refine Ai ?_); (try (refine hK _ ?_; clear hK K)); try with_reducible refine iC ?_))
   have hall : t.subs.take k = t.subs := List.take_of_length_le (by omega)
   rw [hall] at s21
   have hkl : k = t.subs.length := by omega
   simp only [go_sem, fN, seval, FinQ, AS.result, resAll, resOne, tupV, e6, s6, s7, s21, hkl]
   simp [k1, k2, Lm.kind_mk, Lm.idx_mk, Lm.subs_mk]
theorem linto_a (t x : Lm) (d : Int) (hg : t.good 1000000000) (hx : x.good 1000000000) (hxz : x.size ≤ 1000000000) (hd : 0 ≤ d) (hz : d + t.size ≤ 1000000000) : ACalls Tryz.prog 114 [aLm t, aLm x, aInt d] (aLm (Lm.put x d t)) := by
 induction h : SizeOf.sizeOf t using Nat.strongRecOn generalizing t d with
 | _ N ih =>
 subst h
 have hs := Lm.size_eq t
 have hlen := Lm.length_le t.subs
 obtain ⟨g1, g2, g3, g4⟩ := (Lm.good_eq _ _).1 hg
 have hu2 : under t.kind d ≤ d + 1 ∧ 0 ≤ under t.kind d := by unfold under; split <;> omega
 rw [Lm.put_eq]
 by_cases k1 : t.kind = 1
 ·have g1 := g1 k1
  by_cases k2 : t.idx = d
  ·refine ok_lambda_into.ac fun C hC => ?_
   unfold ir_lambda_into
   repeat' (first | (with_reducible first | refine W ?_ | refine Z0 ?_) | refine Cg _ (lmove_a x d 0 hx (by omega) (by omega) (by omega)) ?_ | ((with_reducible first | refine Wo (fun K hK => ?_) | refine Wp ?_ | refine Wq ?_ | refine Wr ?_); (try simp only [go_sem, fN, seval, eT, iR, k1, k2, dT, dF, nL]); (repeat with_reducible refine Ai ?_); (try (refine hK _ ?_; clear hK K)); try with_reducible refine iC ?_))
   simp only [go_sem, fN, seval, FinQ, AS.result, resAll, resOne, tupV]
   try simp [k1, k2]
  ·by_cases k3 : d < t.idx
   ·refine ok_lambda_into.ac fun C hC => ?_
    unfold ir_lambda_into
    repeat' (first | (with_reducible first | refine W ?_ | refine Z0 ?_) | refine Cg _ (lV_a (t.idx - 1)) ?_ | ((with_reducible first | refine Wo (fun K hK => ?_) | refine Wp ?_ | refine Wq ?_ | refine Wr ?_); (try simp only [go_sem, fN, seval, eT, iR, k1, k2, k3, dT, dF, nL]); (repeat with_reducible refine Ai ?_); (try (refine hK _ ?_; clear hK K)); try with_reducible refine iC ?_))
    simp only [go_sem, fN, seval, FinQ, AS.result, resAll, resOne, tupV]
    simp [k1, k2, k3, Lm.kind_mk, Lm.idx_mk, Lm.subs_mk]
   ·refine ok_lambda_into.ac fun C hC => ?_
    unfold ir_lambda_into
    repeat' (first | (with_reducible first | refine W ?_ | refine Z0 ?_) | refine Cg _ (lV_a t.idx) ?_ | ((with_reducible first | refine Wo (fun K hK => ?_) | refine Wp ?_ | refine Wq ?_ | refine Wr ?_); (try simp only [go_sem, fN, seval, eT, iR, k1, k2, k3, dT, dF, nL]); (repeat with_reducible refine Ai ?_); (try (refine hK _ ?_; clear hK K)); try with_reducible refine iC ?_))
    simp only [go_sem, fN, seval, FinQ, AS.result, resAll, resOne, tupV]
    simp [k1, k2, k3, Lm.kind_mk, Lm.idx_mk, Lm.subs_mk]
 have hcase : t.kind = 2 ∨ ¬ t.kind = 2 := by omega
 rcases hcase with k2 | k2
 all_goals
  refine ok_lambda_into.ac fun C hC => ?_
  unfold ir_lambda_into
  repeat' (first | (with_reducible first | refine W ?_ | refine Z0 ?_) | ((with_reducible first | refine Wo (fun K hK => ?_) | refine Wp ?_ | refine Wq ?_ | refine Wr ?_); (try simp only [go_sem, fN, seval, eT, iR, k1, k2, dT, dF, nL]); (repeat with_reducible refine Ai ?_); (try (refine hK _ ?_; clear hK K)); try with_reducible refine iC ?_))
  refine IWP.ghost (Ghost.ownC 7 2 21 24 3 (xs := ([] : List Lm).map encL) rfl rfl rfl lens_encL) ?_
  refine IWP.loopD [9] (fun n s => ∃ k, k ≤ t.subs.length ∧ n = t.subs.length - k ∧ s.env 2 = aInt (under t.kind d) ∧ s.env 4 = .one (.ptr 4 1 0 0) ∧ s.env 6 = .one (.ptr 6 1 0 0) ∧ s.env 7 = .one (.ptr 7 1 0 0) ∧ s.S 4 = some (.box 24 [.st (.int .i64 x.kind), .st (.int .i64 x.idx), .st (.list (x.subs.map encL))]) ∧ s.S 6 = some (.box 24 [.st (.int .i64 0), .st (.int .i64 0), .full []])
   ∧ s.S 7 = some (.box 24 [.st (.int .i64 t.kind), .st (.int .i64 t.idx), .row 21 k]) ∧ s.S 21 = some (.arow 24 3 (((t.subs.take k).map (Lm.put x (under t.kind d))).map encL)) ∧ s.env 44 = .one (.st (.list (t.subs.map encL))) ∧ s.env 45 = aInt t.subs.length ∧ s.env 46 = aInt k ∧ s.S 9 = none) t.subs.length
   ⟨0, Nat.zero_le _, rfl, by simp only [k1, k2, under, Int.reduceEq, ↓reduceIte]; rfl, rfl, rfl, rfl, rfl, rfl, by first | rfl | (simp only [k1, k2]; rfl), rfl, rfl, rfl, rfl, rfl⟩ ?_
  rintro n ⟨env, S⟩ ⟨k, hk', rfl, e2, e4, e6, e7, s4, s6, s7, s21, e44, e45, e46, s9⟩
  simp only at e2 e4 e6 e7 s4 s6 s7 s21 e44 e45 e46 s9
  have hlk : (t.subs.take k).length = k := by rw [List.length_take]; omega
  by_cases hlt : (k : Int) < t.subs.length
  ·obtain ⟨a, ha⟩ := get_lt (show k < t.subs.length by omega)
   have z3 := Lm.size_mem (mem_of_get ha)
   repeat' (first | (with_reducible first | refine W ?_ | refine Z0 ?_) | refine Cg _ (ih _ (Lm.lt_of_sub (mem_of_get ha)) a (under t.kind d) (Lm.good_sub hg (mem_of_get ha)) hu2.2 (by omega) rfl) ?_ | ((with_reducible first | refine Wo (fun K hK => ?_) | refine Wp ?_ | refine Wq ?_ | refine Wr ?_); (try simp only [go_sem, fN, seval, eT, iR, e2, e4, e6, e7, s4, s6, s7, s21, e44, e45, e46, s9, ha, hlt, hlk, dT, dF, nL]); (repeat with_reducible refine Ai ?_); (try (refine hK _ ?_; clear hK K)); try with_reducible refine iC ?_))
   refine then_normal ⟨t.subs.length - (k + 1), by omega, k + 1, by omega, rfl, ?_⟩
   simp only [go_sem, fN, seval, AS.drop, dropS, AC.clears, AC.clear, AC.highs, AC.high, Bool.not_false, Bool.true_and, Bool.and_self, AV.purge, AV.purges, AC.purge, ABlk.purge, List.contains_cons, List.contains_nil, Nat.reduceBEq, Bool.or_self, Bool.or_false, Bool.false_or, Bool.or_true, eT, iR, e2, e4, e6, e7, s4, s6, s7, s21, e44, e45, e46, s9]
   exact ⟨by rw [take_snoc ha]; simp [encL_eq], by congr 3⟩
  ·repeat' (first | (with_reducible first | refine W ?_ | refine Z0 ?_) | ((with_reducible first | refine Wo (fun K hK => ?_) | refine Wp ?_ | refine Wq ?_ | refine Wr ?_); (try simp only [go_sem, fN, seval, eT, iR, e2, e4, e6, e7, s4, s6, s7, s21, e44, e45, e46, s9, hlt, dT, dF, nL]); (repeat with_reducible refine Ai ?_); (try (refine hK _ ?_; clear hK K)); try with_reducible refine iC ?_))
   have hall : t.subs.take k = t.subs := List.take_of_length_le (by omega)
   rw [hall] at s21
   have hkl : k = t.subs.length := by omega
   simp only [go_sem, fN, seval, FinQ, AS.result, resAll, resOne, tupV, e6, s6, s7, s21, hkl]
   simp [k1, k2, Lm.kind_mk, Lm.idx_mk, Lm.subs_mk]
theorem lInto_a (t x : Lm) (hg : t.good 1000000000) (hx : x.good 1000000000) (hxz : x.size ≤ 1000000000) (hz : t.size ≤ 1000000000) : ACalls Tryz.prog 104 [aLm t, aLm x] (aLm (Lm.put x 0 t)) := by
 refine ok_lambda_Into.ac fun C hC => ?_
 unfold ir_lambda_Into
 repeat' (first | (with_reducible first | refine W ?_ | refine Z0 ?_) | refine Cg _ (linto_a t x 0 hg hx hxz (by decide) (by omega)) ?_ | ((with_reducible first | refine Wo (fun K hK => ?_) | refine Wp ?_ | refine Wq ?_ | refine Wr ?_); (try simp only [go_sem, fN, seval, eT, iR, dT, dF, nL]); (repeat with_reducible refine Ai ?_); (try (refine hK _ ?_; clear hK K)); try with_reducible refine iC ?_))
 simp only [go_sem, fN, seval, FinQ, AS.result, resAll, resOne, tupV]
abbrev aLm1 (x : Lm) : AV := .one (.st (.list [[.int .i64 x.kind, .int .i64 x.idx, .list (x.subs.map encL)]]))
theorem linstead_a (t x : Lm) (d : Int) (hg : t.good 1000000000) (hx : x.good 1000000000) (hxz : x.size ≤ 1000000000) (hd : 0 ≤ d) (hz : d + t.size ≤ 1000000000) : ACalls Tryz.prog 73 [aLm t, aLm1 x, aInt d] (aLm (Lm.put x d t)) := by
 induction h : SizeOf.sizeOf t using Nat.strongRecOn generalizing t d with
 | _ N ih =>
 subst h
 have hs := Lm.size_eq t
 have hlen := Lm.length_le t.subs
 obtain ⟨g1, g2, g3, g4⟩ := (Lm.good_eq _ _).1 hg
 have hu2 : under t.kind d ≤ d + 1 ∧ 0 ≤ under t.kind d := by unfold under; split <;> omega
 rw [Lm.put_eq]
 by_cases k1 : t.kind = 1
 ·have g1 := g1 k1
  by_cases k2 : t.idx = d
  ·have k3 : ¬ t.idx < d := by omega
   have k4 : t.idx - d = 0 := by omega
   refine ok_R_Instead.ac fun C hC => ?_
   unfold ir_R_Instead
   repeat' (first | (with_reducible first | refine W ?_ | refine Z0 ?_) | refine Cg _ (lhigher_a x d 0 hx (by omega) (by omega) (by omega)) ?_ | ((with_reducible first | refine Wo (fun K hK => ?_) | refine Wp ?_ | refine Wq ?_ | refine Wr ?_); (try simp only [go_sem, fN, seval, eT, iR, k1, k3, k4, Int.cast_ofNat_Int, dT, dF, nL]); (repeat with_reducible refine Ai ?_); (try (refine hK _ ?_; clear hK K)); try with_reducible refine iC ?_))
   simp only [go_sem, fN, seval, FinQ, AS.result, resAll, resOne, tupV]
   try simp [k1, k2]
  ·by_cases k3 : d < t.idx
   ·have k4 : ¬ t.idx < d := by omega
    have k5 : ¬ t.idx - d < 1 := by omega
    refine ok_R_Instead.ac fun C hC => ?_
    unfold ir_R_Instead
    repeat' (first | (with_reducible first | refine W ?_ | refine Z0 ?_) | refine Cg _ (lVar_a (t.idx - 1)) ?_ | ((with_reducible first | refine Wo (fun K hK => ?_) | refine Wp ?_ | refine Wq ?_ | refine Wr ?_); (try simp only [go_sem, fN, seval, eT, iR, k1, k4, k5, Int.cast_ofNat_Int, dT, dF, nL]); (repeat with_reducible refine Ai ?_); (try (refine hK _ ?_; clear hK K)); try with_reducible refine iC ?_))
    simp only [go_sem, fN, seval, FinQ, AS.result, resAll, resOne, tupV]
    simp [k1, k2, k3, Lm.kind_mk, Lm.idx_mk, Lm.subs_mk]
   ·have k4 : t.idx < d := by omega
    refine ok_R_Instead.ac fun C hC => ?_
    unfold ir_R_Instead
    repeat' (first | (with_reducible first | refine W ?_ | refine Z0 ?_) | ((with_reducible first | refine Wo (fun K hK => ?_) | refine Wp ?_ | refine Wq ?_ | refine Wr ?_); (try simp only [go_sem, fN, seval, eT, iR, k1, k4, dT, dF, nL]); (repeat with_reducible refine Ai ?_); (try (refine hK _ ?_; clear hK K)); try with_reducible refine iC ?_))
    simp only [go_sem, fN, seval, FinQ, AS.result, resAll, resOne, tupV]
    simp [k1, k2, k3, g1, Lm.kind_mk, Lm.idx_mk, Lm.subs_mk]
 have hcase : t.kind = 2 ∨ ¬ t.kind = 2 := by omega
 rcases hcase with k2 | k2
 all_goals
  refine ok_R_Instead.ac fun C hC => ?_
  unfold ir_R_Instead
  repeat' (first | (with_reducible first | refine W ?_ | refine Z0 ?_) | ((with_reducible first | refine Wo (fun K hK => ?_) | refine Wp ?_ | refine Wq ?_ | refine Wr ?_); (try simp only [go_sem, fN, seval, eT, iR, k1, k2, dT, dF, nL]); (repeat with_reducible refine Ai ?_); (try (refine hK _ ?_; clear hK K)); try with_reducible refine iC ?_))
  refine IWP.ghost (Ghost.ownC 8 2 21 24 3 (xs := ([] : List Lm).map encL) rfl rfl rfl lens_encL) ?_
  refine IWP.loop (fun n s => ∃ k, k ≤ t.subs.length ∧ n = t.subs.length - k ∧ s.env 1 = aLm1 x ∧ s.env 2 = aInt (under t.kind d) ∧ s.env 3 = .one (.ptr 3 1 0 0) ∧ s.env 6 = .one (.ptr 6 1 0 0) ∧ s.env 8 = .one (.ptr 8 1 0 0) ∧ s.S 3 = some (.box 24 [.st (.int .i64 t.kind), .st (.int .i64 t.idx), .st (.list (t.subs.map encL))]) ∧ s.S 6 = some (.box 24 [.st (.int .i64 0), .st (.int .i64 0), .full []])
   ∧ s.S 8 = some (.box 24 [.st (.int .i64 t.kind), .st (.int .i64 t.idx), .row 21 k]) ∧ s.S 21 = some (.arow 24 3 (((t.subs.take k).map (Lm.put x (under t.kind d))).map encL)) ∧ s.env 9 = aInt k) t.subs.length
   ⟨0, Nat.zero_le _, rfl, rfl, by simp only [k1, k2, under, Int.reduceEq, ↓reduceIte]; rfl, rfl, rfl, rfl, by first | rfl | (simp only [k1, k2]; rfl), rfl, by first | rfl | (simp only [k1, k2]; rfl), rfl, rfl⟩ ?_
  rintro n ⟨env, S⟩ ⟨k, hk', rfl, e1, e2, e3, e6, e8, s3, s6, s8, s21, e9⟩
  simp only at e1 e2 e3 e6 e8 s3 s6 s8 s21 e9
  have hlk : (t.subs.take k).length = k := by rw [List.length_take]; omega
  by_cases hlt : (k : Int) < t.subs.length
  ·obtain ⟨a, ha⟩ := get_lt (show k < t.subs.length by omega)
   have z3 := Lm.size_mem (mem_of_get ha)
   repeat' (first | (with_reducible first | refine W ?_ | refine Z0 ?_) | refine Cg _ (ih _ (Lm.lt_of_sub (mem_of_get ha)) a (under t.kind d) (Lm.good_sub hg (mem_of_get ha)) hu2.2 (by omega) rfl) ?_ | ((with_reducible first | refine Wo (fun K hK => ?_) | refine Wp ?_ | refine Wq ?_ | refine Wr ?_); (try simp only [go_sem, fN, seval, eT, iR, e1, e2, e3, e6, e8, s3, s6, s8, s21, e9, ha, hlt, hlk, dT, dF, nL]); (repeat with_reducible refine Ai ?_); (try (refine hK _ ?_; clear hK K)); try with_reducible refine iC ?_))
   refine then_normal ⟨t.subs.length - (k + 1), by omega, k + 1, by omega, rfl, ?_⟩
   simp only [go_sem, fN, seval, eT, iR, e1, e2, e3, e6, e8, s3, s6, s8, s21, e9]
   exact ⟨by rw [take_snoc ha]; simp [encL_eq], by congr 3⟩
  ·repeat' (first | (with_reducible first | refine W ?_ | refine Z0 ?_) | ((with_reducible first | refine Wo (fun K hK => ?_) | refine Wp ?_ | refine Wq ?_ | refine Wr ?_); (try simp only [go_sem, fN, seval, eT, iR, e1, e2, e3, e6, e8, s3, s6, s8, s21, e9, hlt, dT, dF, nL]); (repeat with_reducible refine Ai ?_); (try (refine hK _ ?_; clear hK K)); try with_reducible refine iC ?_))
   have hall : t.subs.take k = t.subs := List.take_of_length_le (by omega)
   rw [hall] at s21
   have hkl : k = t.subs.length := by omega
   simp only [go_sem, fN, seval, FinQ, AS.result, resAll, resOne, tupV, e6, s6, s8, s21, hkl]
   simp [k1, k2, Lm.kind_mk, Lm.idx_mk, Lm.subs_mk]
theorem lBeta_a (t x : Lm) (hg : t.good 1000000000) (hx : x.good 1000000000) (hxz : x.size ≤ 1000000000) (hz : t.size ≤ 1000000000) : ACalls Tryz.prog 54 [aLm t, aLm x] (aLm (Lm.put x 0 t)) := by
 refine ok_R_Beta.ac fun C hC => ?_
 unfold ir_R_Beta
 repeat' (first | (with_reducible first | refine W ?_ | refine Z0 ?_) | refine Cg _ (linstead_a t x 0 hg hx hxz (by decide) (by omega)) ?_ | ((with_reducible first | refine Wo (fun K hK => ?_) | refine Wp ?_ | refine Wq ?_ | refine Wr ?_); (try simp only [go_sem, fN, seval, eT, iR, dT, dF, nL]); (repeat with_reducible refine Ai ?_); (try (refine hK _ ?_; clear hK K)); try with_reducible refine iC ?_))
 simp only [go_sem, fN, seval, FinQ, AS.result, resAll, resOne, tupV]

set_option maxHeartbeats 1000000 in
theorem lchkR_a (t : Lm) (u m : Int) (hu : 0 ≤ u) (hz : u + t.size ≤ 1000000000) : ACalls Tryz.prog 23 [aLm t, aInt u, aInt m] (aInt (t.chk m u)) := by
 induction h : SizeOf.sizeOf t using Nat.strongRecOn generalizing t u with
 | _ N ih =>
 subst h
 have hs := Lm.size_eq t
 have hlen := Lm.length_le t.subs
 refine ok_R_lamMay.ac fun C hC => ?_
 unfold ir_R_lamMay
 by_cases hk : 1 ≤ t.kind ∧ t.kind ≤ 5
 case neg =>
  rw [Lm.chk_eq, if_neg (fun h => hk ⟨h.1, h.2.1⟩)]
  have q1 : ¬ t.kind = 1 := by omega
  have q2 : ¬ t.kind = 2 := by omega
  have q3 : ¬ t.kind = 3 := by omega
  have q4 : ¬ t.kind = 4 := by omega
  have q5 : ¬ t.kind = 5 := by omega
  repeat' (first | (with_reducible first | refine W ?_ | refine Z0 ?_) | ((with_reducible first | refine Wo (fun K hK => ?_) | refine Wp ?_ | refine Wq ?_ | refine Wr ?_); (try simp only [go_sem, fN, seval, eT, iR, q1, q2, q3, q4, q5, dT, dF, nL]); (repeat with_reducible refine Ai ?_); (try (refine hK _ ?_; clear hK K)); try with_reducible refine iC ?_))
  simp only [go_sem, fN, seval, FinQ, AS.result, resAll, resOne, tupV]
 case pos =>
 have hk5 := kinds_of hk
 by_cases hl : (t.subs.length : Int) = nSubs t.kind
 case neg =>
  rw [Lm.chk_eq, if_neg (fun h => hl h.2.2)]
  rcases hk5 with hk5 | hk5 | hk5 | hk5 | hk5
  all_goals
   simp only [hk5, nSubs, Int.reduceEq, ↓reduceIte] at hl
   repeat' (first | (with_reducible first | refine W ?_ | refine Z0 ?_) | ((with_reducible first | refine Wo (fun K hK => ?_) | refine Wp ?_ | refine Wq ?_ | refine Wr ?_); (try simp only [go_sem, fN, seval, eT, iR, hk5, hl, dT, dF, nL]); (repeat with_reducible refine Ai ?_); (try (refine hK _ ?_; clear hK K)); try with_reducible refine iC ?_))
   simp only [go_sem, fN, seval, FinQ, AS.result, resAll, resOne, tupV]
 case pos =>
 by_cases h0 : t.idx < 0
 case pos =>
  rw [Lm.chk_eq, if_pos ⟨hk.1, hk.2, hl⟩, if_neg (fun h => by omega)]
  rcases hk5 with hk5 | hk5 | hk5 | hk5 | hk5
  all_goals
   simp only [hk5, nSubs, Int.reduceEq, ↓reduceIte] at hl
   repeat' (first | (with_reducible first | refine W ?_ | refine Z0 ?_) | ((with_reducible first | refine Wo (fun K hK => ?_) | refine Wp ?_ | refine Wq ?_ | refine Wr ?_); (try simp only [go_sem, fN, seval, eT, iR, hk5, hl, h0, dT, dF, nL]); (repeat with_reducible refine Ai ?_); (try (refine hK _ ?_; clear hK K)); try with_reducible refine iC ?_))
   simp only [go_sem, fN, seval, FinQ, AS.result, resAll, resOne, tupV]
 case neg =>
 by_cases hm : mostIdx t.kind u m ≤ t.idx
 case pos =>
  rw [Lm.chk_eq, if_pos ⟨hk.1, hk.2, hl⟩, if_neg (fun h => by omega)]
  rcases hk5 with hk5 | hk5 | hk5 | hk5 | hk5
  all_goals
   simp only [hk5, nSubs, mostIdx, Int.reduceEq, ↓reduceIte] at hl hm
   repeat' (first | (with_reducible first | refine W ?_ | refine Z0 ?_) | ((with_reducible first | refine Wo (fun K hK => ?_) | refine Wp ?_ | refine Wq ?_ | refine Wr ?_); (try simp only [go_sem, fN, seval, eT, iR, hk5, hl, h0, hm, dT, dF, nL]); (repeat with_reducible refine Ai ?_); (try (refine hK _ ?_; clear hK K)); try with_reducible refine iC ?_))
   simp only [go_sem, fN, seval, FinQ, AS.result, resAll, resOne, tupV]
 case neg =>
 rw [Lm.chk_eq, if_pos ⟨hk.1, hk.2, hl⟩, if_pos (by omega)]
 rcases hk5 with hk5 | hk5 | hk5 | hk5 | hk5
 all_goals
  simp only [hk5, nSubs, mostIdx, Int.reduceEq, ↓reduceIte] at hl hm
  repeat' (first | (with_reducible first | refine W ?_ | refine Z0 ?_) | ((with_reducible first | refine Wo (fun K hK => ?_) | refine Wp ?_ | refine Wq ?_ | refine Wr ?_); (try simp only [go_sem, fN, seval, eT, iR, hk5, hl, h0, hm, dT, dF, nL]); (repeat with_reducible refine Ai ?_); (try (refine hK _ ?_; clear hK K)); try with_reducible refine iC ?_))
  refine IWP.loop (fun n s => ∃ k, k ≤ t.subs.length ∧ n = t.subs.length - k ∧ Lm.chks m (t.subs.take k) (under t.kind u) = 0 ∧ s.env 2 = aInt m ∧ s.env 3 = .one (.ptr 3 1 0 0) ∧ s.S 3 = some (.box 24 [.st (.int .i64 t.kind), .st (.int .i64 t.idx), .st (.list (t.subs.map encL))]) ∧ s.env 8 = aInt t.subs.length ∧ s.env 9 = aInt (under t.kind u) ∧ s.env 10 = aInt k) t.subs.length ⟨0, Nat.zero_le _, rfl, rfl, rfl, rfl, by simp only [hk5]; rfl, by simp only [go_sem, fN, seval, eT, iR, hl], by simp only [hk5, under]; rfl, rfl⟩ ?_
  rintro n ⟨env, S⟩ ⟨k, hk', rfl, hc, e2, e3, s3, e8, e9, e10⟩
  simp only at e2 e3 s3 e8 e9 e10
  by_cases hlt : (k : Int) < t.subs.length
  ·obtain ⟨a, ha⟩ := get_lt (show k < t.subs.length by omega)
   have z3 := Lm.size_mem (mem_of_get ha)
   have hu2 : under t.kind u ≤ u + 1 ∧ 0 ≤ under t.kind u := by unfold under; split <;> omega
   repeat' (first | (with_reducible first | refine W ?_ | refine Z0 ?_) | ((with_reducible first | refine Wo (fun K hK => ?_) | refine Wp ?_ | refine Wq ?_ | refine Wr ?_); (try simp only [go_sem, fN, seval, eT, iR, e2, e3, s3, e8, e9, e10, ha, hlt, dT, dF, nL]); (repeat with_reducible refine Ai ?_); (try (refine hK _ ?_; clear hK K)); try with_reducible refine iC ?_))
   refine ⟨_, ih _ (Lm.lt_of_sub (mem_of_get ha)) a (under t.kind u) hu2.2 (by omega) rfl, ?_⟩
   by_cases hr : a.chk m (under t.kind u) = 0
   ·repeat' (first | (with_reducible first | refine W ?_ | refine Z0 ?_) | ((with_reducible first | refine Wo (fun K hK => ?_) | refine Wp ?_ | refine Wq ?_ | refine Wr ?_); (try simp only [go_sem, fN, seval, eT, iR, e2, e3, s3, e8, e9, e10, hr, dT, dF, nL]); (repeat with_reducible refine Ai ?_); (try (refine hK _ ?_; clear hK K)); try with_reducible refine iC ?_))
    refine then_normal ⟨t.subs.length - (k + 1), by omega, k + 1, by omega, rfl, ?_⟩
    simp only [go_sem, fN, seval, eT, iR, e2, e3, s3, e8, e9, e10]
    exact ⟨by rw [Lm.chks_take ha hc, hr], by congr 3⟩
   ·repeat' (first | (with_reducible first | refine W ?_ | refine Z0 ?_) | ((with_reducible first | refine Wo (fun K hK => ?_) | refine Wp ?_ | refine Wq ?_ | refine Wr ?_); (try simp only [go_sem, fN, seval, eT, iR, e2, e3, s3, e8, e9, e10, hr, dT, dF, nL]); (repeat with_reducible refine Ai ?_); (try (refine hK _ ?_; clear hK K)); try with_reducible refine iC ?_))
    simp only [go_sem, fN, seval, FinQ, AS.result, resAll, resOne, tupV]
    simp only [hk5] at hc hr ⊢
    rw [Lm.chks_bad (k := k + 1) (by rw [Lm.chks_take ha hc]; exact hr), Lm.chks_take ha hc]
  ·repeat' (first | (with_reducible first | refine W ?_ | refine Z0 ?_) | ((with_reducible first | refine Wo (fun K hK => ?_) | refine Wp ?_ | refine Wq ?_ | refine Wr ?_); (try simp only [go_sem, fN, seval, eT, iR, e2, e3, s3, e8, e9, e10, hlt, dT, dF, nL]); (repeat with_reducible refine Ai ?_); (try (refine hK _ ?_; clear hK K)); try with_reducible refine iC ?_))
   simp only [go_sem, fN, seval, FinQ, AS.result, resAll, resOne, tupV]
   rw [List.take_of_length_le (by omega)] at hc
   simp only [hk5] at hc ⊢
   rw [hc]
theorem lMay_a (t : Lm) (u m : Int) : ACalls Tryz.prog 8 [aLm t, aInt u, aInt m] (aInt (t.may m u)) := by
 refine ok_R_LamMay.ac fun C hC => ?_
 unfold ir_R_LamMay
 unfold Lm.may
 by_cases h0 : u < 0
 ·rw [if_pos (Or.inl h0)]
  repeat' (first | (with_reducible first | refine W ?_ | refine Z0 ?_) | ((with_reducible first | refine Wo (fun K hK => ?_) | refine Wp ?_ | refine Wq ?_ | refine Wr ?_); (try simp only [go_sem, fN, seval, eT, iR, h0, dT, dF, nL]); (repeat with_reducible refine Ai ?_); (try (refine hK _ ?_; clear hK K)); try with_reducible refine iC ?_))
  simp only [go_sem, fN, seval, FinQ, AS.result, resAll, resOne, tupV]
 by_cases h1 : 40 < u
 ·rw [if_pos (Or.inr h1)]
  repeat' (first | (with_reducible first | refine W ?_ | refine Z0 ?_) | ((with_reducible first | refine Wo (fun K hK => ?_) | refine Wp ?_ | refine Wq ?_ | refine Wr ?_); (try simp only [go_sem, fN, seval, eT, iR, h0, h1, dT, dF, nL]); (repeat with_reducible refine Ai ?_); (try (refine hK _ ?_; clear hK K)); try with_reducible refine iC ?_))
  simp only [go_sem, fN, seval, FinQ, AS.result, resAll, resOne, tupV]
 rw [if_neg (by omega)]
 by_cases hz : 200 < t.size
 ·have hz' : 200 < capTo t.size 200 := by unfold capTo; split <;> omega
  rw [if_pos hz]
  repeat' (first | (with_reducible first | refine W ?_ | refine Z0 ?_) | refine Cg _ (lsizeR_a t 200 (by decide) (by decide)) ?_ | ((with_reducible first | refine Wo (fun K hK => ?_) | refine Wp ?_ | refine Wq ?_ | refine Wr ?_); (try simp only [go_sem, fN, seval, eT, iR, h0, h1, hz', dT, dF, nL]); (repeat with_reducible refine Ai ?_); (try (refine hK _ ?_; clear hK K)); try with_reducible refine iC ?_))
  simp only [go_sem, fN, seval, FinQ, AS.result, resAll, resOne, tupV]
 ·have hz' : ¬ 200 < capTo t.size 200 := by unfold capTo; split <;> omega
  rw [if_neg hz]
  repeat' (first | (with_reducible first | refine W ?_ | refine Z0 ?_) | refine Cg _ (lsizeR_a t 200 (by decide) (by decide)) ?_ | refine Cg _ (lchkR_a t u m (by omega) (by omega)) ?_ | ((with_reducible first | refine Wo (fun K hK => ?_) | refine Wp ?_ | refine Wq ?_ | refine Wr ?_); (try simp only [go_sem, fN, seval, eT, iR, h0, h1, hz', dT, dF, nL]); (repeat with_reducible refine Ai ?_); (try (refine hK _ ?_; clear hK K)); try with_reducible refine iC ?_))
  simp only [go_sem, fN, seval, FinQ, AS.result, resAll, resOne, tupV]
theorem hugeLam_a (t : Lm) : ACalls Tryz.prog 5 [aLm t] (aBool (decide (3000 < t.size))) := by
 refine ok_L_hugeLam.ac fun C hC => ?_
 unfold ir_L_hugeLam
 repeat' (first | (with_reducible first | refine W ?_ | refine Z0 ?_) | ((with_reducible first | refine Wo (fun K hK => ?_) | refine Wp ?_ | refine Wq ?_ | refine Wr ?_); (try simp only [go_sem, fN, seval, eT, iR, dT, dF, nL]); (repeat with_reducible refine Ai ?_); (try (refine hK _ ?_; clear hK K)); try with_reducible refine iC ?_))
 refine ⟨_, lsizeR_a t 3000 (by decide) (by decide), ?_⟩
 have hz : (3000 < capTo t.size 3000) ↔ 3000 < t.size := by unfold capTo; split <;> omega
 repeat' (first | (with_reducible first | refine W ?_ | refine Z0 ?_) | ((with_reducible first | refine Wo (fun K hK => ?_) | refine Wp ?_ | refine Wq ?_ | refine Wr ?_); (try simp only [go_sem, fN, seval, eT, iR, hz, dT, dF, nL]); (repeat with_reducible refine Ai ?_); (try (refine hK _ ?_; clear hK K)); try with_reducible refine iC ?_))
 simp only [go_sem, fN, seval, FinQ, AS.result, resAll, resOne, tupV]
theorem sameLam_a (t : Lm) : ACalls Tryz.prog 42 [aLm t, aLm t] (aBool true) := by
 induction h : SizeOf.sizeOf t using Nat.strongRecOn generalizing t with
 | _ N ih =>
 subst h
 refine ok_R_SameLam.ac fun C hC => ?_
 unfold ir_R_SameLam
 refine IWP.learn 0 (by omega) fun hkn => ?_
 have hkn := (known_lm hkn).2.2
 repeat' (first | (with_reducible first | refine W ?_ | refine Z0 ?_) | ((with_reducible first | refine Wo (fun K hK => ?_) | refine Wp ?_ | refine Wq ?_ | refine Wr ?_); (try simp only [go_sem, fN, seval, eT, iR, dT, dF, nL]); (repeat with_reducible refine Ai ?_); (try (refine hK _ ?_; clear hK K)); try with_reducible refine iC ?_))
 refine IWP.loop (fun n s => ∃ k, k ≤ t.subs.length ∧ n = t.subs.length - k ∧ s.env 2 = .one (.ptr 2 1 0 0) ∧ s.env 3 = .one (.ptr 3 1 0 0) ∧ s.S 2 = some (.box 24 [.st (.int .i64 t.kind), .st (.int .i64 t.idx), .st (.list (t.subs.map encL))]) ∧ s.S 3 = some (.box 24 [.st (.int .i64 t.kind), .st (.int .i64 t.idx), .st (.list (t.subs.map encL))]) ∧ s.env 5 = aInt k) t.subs.length ⟨0, Nat.zero_le _, rfl, rfl, rfl, rfl, rfl, rfl⟩ ?_
 rintro n ⟨env, S⟩ ⟨k, hk', rfl, e2, e3, s2, s3, e5⟩
 simp only at e2 e3 s2 s3 e5
 by_cases hlt : (k : Int) < t.subs.length
 ·obtain ⟨a, ha⟩ := get_lt (show k < t.subs.length by omega)
  repeat' (first | (with_reducible first | refine W ?_ | refine Z0 ?_) | refine Cg _ (ih _ (Lm.lt_of_sub (mem_of_get ha)) a rfl) ?_ | ((with_reducible first | refine Wo (fun K hK => ?_) | refine Wp ?_ | refine Wq ?_ | refine Wr ?_); (try simp only [go_sem, fN, seval, eT, iR, e2, e3, s2, s3, e5, ha, hlt, dT, dF, nL]); (repeat with_reducible refine Ai ?_); (try (refine hK _ ?_; clear hK K)); try with_reducible refine iC ?_))
  refine then_normal ⟨t.subs.length - (k + 1), by omega, k + 1, by omega, rfl, ?_⟩
  simp only [go_sem, fN, seval, eT, iR, e2, e3, s2, s3, e5]
  congr 3
 ·repeat' (first | (with_reducible first | refine W ?_ | refine Z0 ?_) | ((with_reducible first | refine Wo (fun K hK => ?_) | refine Wp ?_ | refine Wq ?_ | refine Wr ?_); (try simp only [go_sem, fN, seval, eT, iR, e2, e3, s2, s3, e5, hlt, dT, dF, nL]); (repeat with_reducible refine Ai ?_); (try (refine hK _ ?_; clear hK K)); try with_reducible refine iC ?_))
  simp only [go_sem, fN, seval, FinQ, AS.result, resAll, resOne, tupV]
theorem lam2_a (r w : Lm) (e : Int) (h : (e ≠ 0 ∧ r = Lm.nil) ∨ (e = 0 ∧ r = w)) : ACalls Tryz.prog 17 [aLm r, aInt e, aLm w, aInt e] (aBool true) := by
 refine ok_L_lam2.ac fun C hC => ?_
 unfold ir_L_lam2
 rcases h with ⟨h, rfl⟩ | ⟨rfl, rfl⟩
 ·repeat' (first | (with_reducible first | refine W ?_ | refine Z0 ?_) | ((with_reducible first | refine Wo (fun K hK => ?_) | refine Wp ?_ | refine Wq ?_ | refine Wr ?_); (try simp only [go_sem, fN, seval, eT, iR, h, Lm.nil, dT, dF, nL]); (repeat with_reducible refine Ai ?_); (try (refine hK _ ?_; clear hK K)); try with_reducible refine iC ?_))
  simp only [go_sem, fN, seval, FinQ, AS.result, resAll, resOne, tupV]
  try simp
 ·repeat' (first | (with_reducible first | refine W ?_ | refine Z0 ?_) | refine Cg _ (sameLam_a r) ?_ | ((with_reducible first | refine Wo (fun K hK => ?_) | refine Wp ?_ | refine Wq ?_ | refine Wr ?_); (try simp only [go_sem, fN, seval, eT, iR, dT, dF, nL]); (repeat with_reducible refine Ai ?_); (try (refine hK _ ?_; clear hK K)); try with_reducible refine iC ?_))
  simp only [go_sem, fN, seval, FinQ, AS.result, resAll, resOne, tupV]

def ir_lambda_A : IR :=
 (.seq (.ops [.i 2 (.box 24 (.t 0)), .i 3 (.box 24 (.t 1)), .i 4 (.alloc 24 [.st (.int .i64 0), .st (.int .i64 0), .full []])]) (.seq (.ops [.L 5 3 2, .L 6 3 3, .i 7 (.buildSlice false 24 3 [.t 5, .t 6]), .i 8 (.build [.st (.int .i64 0), .st (.int .i64 0), .full []] [(0, 1, .n 3), (2, 1, .t 7)]), .s 3 4 8]) .ret))
theorem ok_lambda_A : OkF Tryz.prog 62 9 [] ir_lambda_A [.cell 4 true 3] := .of Tryz.func62 rfl rfl (by kernel_rfl) rfl
def ir_lambda_L : IR :=
 (.seq (.ops [.i 1 (.box 24 (.t 0)), .i 2 (.alloc 24 [.st (.int .i64 0), .st (.int .i64 0), .full []])]) (.seq (.ops [.L 3 3 1, .i 4 (.buildSlice false 24 3 [.t 3]), .i 5 (.build [.st (.int .i64 0), .st (.int .i64 0), .full []] [(0, 1, .n 2), (2, 1, .t 4)]), .s 3 2 5]) .ret))
theorem ok_lambda_L : OkF Tryz.prog 66 6 [] ir_lambda_L [.cell 2 true 3] := .of Tryz.func66 rfl rfl (by kernel_rfl) rfl
def ir_lambda_Copy : IR :=
 (.seq (.ops [.i 1 (.box 24 (.t 0)), .i 2 (.alloc 24 [.st (.int .i64 0), .st (.int .i64 0), .full []])]) (.seq (.ops [.L 3 3 1, .i 4 (.call 63 [.t 3, .n 0, .n 0]), .s 3 2 4]) .ret))
theorem ok_lambda_Copy : OkF Tryz.prog 40 5 [] ir_lambda_Copy [.cell 2 true 3] := .of Tryz.func40 rfl rfl (by kernel_rfl) rfl
def ir_lambda_Same : IR :=
 (.seq (.ops [.i 2 (.box 24 (.t 0)), .i 3 (.box 24 (.t 1)), .i 4 (.mov (.c (.one (.st (.bool false)))))]) (.seq (.ops [.f 5 0 2, .l 6 5, .f 7 0 3, .l 8 7, .i 9 (.bin .eql (.t 6) (.t 8)), .m 10 9, .mk (some 11) (some (10, true)) (.fieldAddr 1 (.t 2)) .no, .mk (some 12) (some (10, true)) (.load false 1 (.t 11)) .no, .mk (some 13) (some (10, true)) (.fieldAddr 1 (.t 3)) .no, .mk (some 14) (some (10, true)) (.load false 1 (.t 13)) .no, .mk (some 15) (some (10, true)) (.bin .eql (.t 12) (.t 14)) .no, .i 16 (.pick (.t 10) (.t 15) (.c (.one (.st (.bool false))))), .m 17 16, .mk (some 18) (some (17, true)) (.fieldAddr 2 (.t 2)) .no, .mk (some 19) (some (17, true)) (.load false 1 (.t 18)) .no, .mk (some 20) (some (17, true)) (.fieldAddr 2 (.t 3)) .no, .mk (some 21) (some (17, true)) (.load false 1 (.t 20)) .no, .mk (some 22) (some (17, true)) (.call 68 [.t 19, .t 21, .c (.one (.fn 41 []))]) .no, .i 23 (.pick (.t 17) (.t 22) (.c (.one (.st (.bool false))))), .m 4 23]) .ret))
theorem ok_lambda_Same : OkF Tryz.prog 41 24 [] ir_lambda_Same [.t 4] := .of Tryz.func41 rfl rfl (by kernel_rfl) rfl
def ir_slices_EqualFunc_metaprune_api_Lam_metaprune_api_Lam_metaprune_api_Lam_metaprune_api_Lam : IR :=
 (.seq (.ops [.i 6 (.mov (.c (.one (.st (.bool false)))))]) (.seq (.seq (.ops [.m 10 0, .i 11 (.len false (.t 10)), .m 12 1, .i 13 (.len false (.t 12)), .i 14 (.bin .neq (.t 11) (.t 13))]) (.cond (.t 14) (.seq (.ops [.i 6 (.mov (.c (.one (.st (.bool false)))))]) .ret) .skip)) (.seq (.seq (.ops [.m 15 0, .i 16 (.len false (.t 15)), .i 17 (.mov (.n 0))]) (.block 0 (.loop (.seq (.ops [.i 18 (.bin .lss (.t 17) (.t 16))]) (.seq (.cond (.t 18) .skip (.exit 0)) (.seq (.block 1 (.seq (.ops [.m 19 17, .i 20 (.indexAddr 3 (.t 15) (.t 17)), .L 21 3 20, .i 8 (.alloc 24 [.st (.int .i64 0), .st (.int .i64 0), .full []]), .m 7 19, .s 3 8 21]) (.seq (.ops [.m 22 1, .m 23 7, .i 24 (.indexAddr 3 (.t 22) (.t 23)), .L 25 3 24, .i 9 (.alloc 24 [.st (.int .i64 0), .st (.int .i64 0), .full []]), .s 3 9 25]) (.seq (.ops [.m 26 2, .L 27 3 8, .L 28 3 9, .i 29 (.callV (.t 26) [.t 27, .t 28]), .i 30 (.un .not (.t 29))]) (.cond (.t 30) (.seq (.ops [.i 6 (.mov (.c (.one (.st (.bool false)))))]) .ret) .skip))))) (.ops [.i 31 (.bin .add (.t 17) (.n 1)), .m 17 31]))))))) (.seq (.ops [.i 6 (.mov (.c (.one (.st (.bool true)))))]) .ret))))
theorem ok_slices_EqualFunc_metaprune_api_Lam_metaprune_api_Lam_metaprune_api_Lam_metaprune_api_Lam : OkF Tryz.prog 68 32 [] ir_slices_EqualFunc_metaprune_api_Lam_metaprune_api_Lam_metaprune_api_Lam_metaprune_api_Lam [.t 6] := .of Tryz.func68 rfl rfl (by kernel_rfl) rfl
def ir_reduce_Redex : IR :=
 (.seq (.ops [.i 1 (.box 24 (.t 0)), .i 2 (.mov (.c (.one (.st (.bool false)))))]) (.seq (.ops [.f 3 0 1, .l 4 3, .i 5 (.bin .eql (.t 4) (.n 3)), .m 6 5, .mk (some 7) (some (6, true)) (.fieldAddr 2 (.t 1)) .no, .mk (some 8) (some (6, true)) (.load false 1 (.t 7)) .no, .mk (some 9) (some (6, true)) (.indexAddr 3 (.t 8) (.n 0)) .no, .mk (some 10) (some (6, true)) (.fieldAddr 0 (.t 9)) .no, .mk (some 11) (some (6, true)) (.load false 1 (.t 10)) .no, .mk (some 12) (some (6, true)) (.bin .eql (.t 11) (.n 2)) .no, .i 13 (.pick (.t 6) (.t 12) (.c (.one (.st (.bool false))))), .m 2 13]) .ret))
theorem ok_reduce_Redex : OkF Tryz.prog 88 14 [] ir_reduce_Redex [.t 2] := .of Tryz.func88 rfl rfl (by kernel_rfl) rfl
def ir_reduce_out : IR :=
 (.seq (.ops [.i 1 (.box 24 (.t 0)), .i 2 (.alloc 24 [.st (.int .i64 0), .st (.int .i64 0), .full []])]) (.seq (.ops [.f 3 2 1, .l 4 3, .i 5 (.indexAddr 3 (.t 4) (.n 0)), .f 6 2 5, .l 7 6, .i 8 (.indexAddr 3 (.t 7) (.n 0)), .L 9 3 8, .f 10 2 1, .l 11 10, .i 12 (.indexAddr 3 (.t 11) (.n 1)), .L 13 3 12, .i 14 (.call 104 [.t 9, .t 13]), .s 3 2 14]) .ret))
theorem ok_reduce_out : OkF Tryz.prog 89 15 [] ir_reduce_out [.cell 2 true 3] := .of Tryz.func89 rfl rfl (by kernel_rfl) rfl
def ir_reduce_with : IR :=
 (.seq (.ops [.i 3 (.box 24 (.t 0)), .i 5 (.box 24 (.t 2)), .i 6 (.alloc 24 [.st (.int .i64 0), .st (.int .i64 0), .full []])]) (.seq (.ops [.mk (some 8) none (.fieldAddr 0 (.t 3)) (.onb 3), .mk (some 9) none (.load false 1 (.t 8)) (.onb 3), .mk (some 10) none (.fieldAddr 1 (.t 3)) (.onb 3), .mk (some 11) none (.load false 1 (.t 10)) (.onb 3), .i 12 (.buildSlice false 24 3 []), .f 13 2 3, .l 14 13, .mk (some 15) none (.append true 24 3 40 (.t 12) (.t 14)) (.keeps [3, 3, 3, 3]), .i 16 (.build [.st (.int .i64 0), .st (.int .i64 0), .full []] [(0, 1, .t 9), (1, 1, .t 11), (2, 1, .t 15)]), .i 7 (.alloc 24 [.st (.int .i64 0), .st (.int .i64 0), .full []]), .s 3 7 16]) (.seq (.ops [.f 17 2 7, .l 18 17, .m 19 1, .L 20 3 5, .i 21 (.indexAddr 3 (.t 18) (.t 19)), .s 3 21 20]) (.seq (.ops [.L 22 3 7, .s 3 6 22]) .ret))))
theorem ok_reduce_with : OkF Tryz.prog 90 23 [15] ir_reduce_with [.cell 6 true 3] := .of Tryz.func90 rfl rfl (by kernel_rfl) rfl
def ir_reduce_Outer : IR :=
 (.seq (.ops [.i 1 (.box 24 (.t 0)), .i 2 (.alloc 24 [.st (.int .i64 0), .st (.int .i64 0), .full []]), .i 3 (.mov (.c (.one (.st (.bool false)))))]) (.seq (.seq (.ops [.L 8 3 1, .i 9 (.call 88 [.t 8])]) (.cond (.t 9) (.seq (.ops [.L 10 3 1, .i 11 (.call 89 [.t 10]), .s 3 2 11, .i 3 (.mov (.c (.one (.st (.bool true)))))]) .ret) .skip)) (.seq (.seq (.ops [.f 12 2 1, .l 13 12, .i 14 (.len false (.t 13)), .i 15 (.mov (.n 0))]) (.block 0 (.loop (.seq (.ops [.i 16 (.bin .lss (.t 15) (.t 14))]) (.seq (.cond (.t 16) .skip (.exit 0)) (.seq (.block 1 (.seq (.ops [.m 17 15, .i 18 (.indexAddr 3 (.t 13) (.t 15)), .L 19 3 18, .i 5 (.alloc 24 [.st (.int .i64 0), .st (.int .i64 0), .full []]), .m 4 17, .s 3 5 19]) (.seq (.ops [.L 21 3 5, .i 22 (.call 61 [.t 21]), .m 20 22, .i 23 (.extract 0 (.t 20)), .i 24 (.extract 1 (.t 20)), .i 6 (.alloc 24 [.st (.int .i64 0), .st (.int .i64 0), .full []]), .s 3 6 23, .m 7 24]) (.seq (.ops [.m 25 7]) (.cond (.t 25) (.seq (.ops [.L 26 3 1, .m 27 4, .L 28 3 6, .i 29 (.call 90 [.t 26, .t 27, .t 28]), .s 3 2 29, .i 3 (.mov (.c (.one (.st (.bool true)))))]) .ret) .skip))))) (.ops [.i 30 (.bin .add (.t 15) (.n 1)), .m 15 30]))))))) (.seq (.ops [.L 31 3 1, .s 3 2 31, .i 3 (.mov (.c (.one (.st (.bool false)))))]) .ret))))
theorem ok_reduce_Outer : OkF Tryz.prog 61 32 [] ir_reduce_Outer [.cell 2 true 3, .t 3] := .of Tryz.func61 rfl rfl (by kernel_rfl) rfl
def ir_reduce_Last : IR :=
 (.seq (.ops [.i 3 (.box 24 (.t 0)), .i 6 (.alloc 24 [.st (.int .i64 0), .st (.int .i64 0), .full []]), .i 7 (.mov (.n 0)), .i 8 (.mov (.n 0))]) (.seq (.ops [.i 9 (.mov (.n 0))]) (.block 0 (.loop (.seq (.block 1 (.seq (.ops [.m 15 2, .L 16 3 3, .i 17 (.callV (.t 15) [.t 16]), .m 14 17, .i 18 (.extract 0 (.t 14)), .i 19 (.extract 1 (.t 14)), .i 10 (.alloc 24 [.st (.int .i64 0), .st (.int .i64 0), .full []]), .s 3 10 18, .m 11 19]) (.seq (.seq (.ops [.m 20 11, .i 21 (.un .not (.t 20))]) (.cond (.t 21) (.seq (.ops [.L 22 3 3, .i 23 (.call 40 [.t 22]), .m 24 9, .s 3 6 23, .m 7 24, .i 8 (.mov (.n 0))]) .ret) .skip)) (.seq (.seq (.ops [.m 25 9, .m 26 1, .i 27 (.bin .eql (.t 25) (.t 26))]) (.cond (.t 27) (.seq (.ops [.i 28 (.build [.st (.int .i64 0), .st (.int .i64 0), .full []] []), .s 3 6 28, .i 7 (.mov (.n 0)), .i 8 (.mov (.n 9))]) .ret) .skip)) (.seq (.ops [.L 29 3 10, .s 3 3 29]) (.seq (.ops [.L 30 3 3, .i 31 (.call 87 [.t 30]), .i 32 (.bin .gtr (.t 31) (.n 2000))]) (.cond (.t 32) (.seq (.ops [.i 33 (.build [.st (.int .i64 0), .st (.int .i64 0), .full []] []), .s 3 6 33, .i 7 (.mov (.n 0)), .i 8 (.mov (.n 8))]) .ret) .skip))))))) (.ops [.m 12 9, .i 13 (.bin .add (.t 12) (.n 1)), .m 9 13]))))))
theorem ok_reduce_Last : OkF Tryz.prog 60 34 [] ir_reduce_Last [.cell 6 true 3, .t 7, .t 8] := .of Tryz.func60 rfl rfl (by kernel_rfl) rfl
def ir_reduce_args : IR :=
 (.seq (.ops [.i 3 (.box 24 (.t 0)), .i 6 (.mov (.n 0))]) (.seq (.ops [.L 8 3 3, .m 9 1, .i 10 (.call 76 [.t 8, .t 9]), .m 7 10]) (.seq (.seq (.ops [.m 11 7, .i 12 (.bin .eql (.t 11) (.n 0)), .m 13 12, .mk (some 14) (some (13, true)) (.mov (.t 2)) .no, .mk (some 15) (some (13, true)) (.bin .lss (.t 14) (.n 0)) .no, .mk (some 16) (some (13, true)) (.mov (.t 15)) .no, .mk (some 17) (some (16, false)) (.mov (.t 2)) .no, .mk (some 18) (some (16, false)) (.bin .gtr (.t 17) (.n 400)) .no, .mk (some 19) (some (13, true)) (.pick (.t 16) (.c (.one (.st (.bool true)))) (.t 18)) .no, .i 20 (.pick (.t 13) (.t 19) (.c (.one (.st (.bool false)))))]) (.cond (.t 20) (.ops [.i 7 (.mov (.n 3))]) .skip)) (.seq (.ops [.m 21 7, .m 6 21]) .ret))))
theorem ok_reduce_args : OkF Tryz.prog 59 22 [] ir_reduce_args [.t 6] := .of Tryz.func59 rfl rfl (by kernel_rfl) rfl
def ir_reduce_Normal : IR :=
 (.seq (.ops [.i 3 (.box 24 (.t 0)), .i 6 (.alloc 24 [.st (.int .i64 0), .st (.int .i64 0), .full []]), .i 7 (.mov (.n 0)), .i 8 (.mov (.n 0))]) (.seq (.seq (.ops [.L 10 3 3, .m 11 1, .m 12 2, .i 13 (.call 59 [.t 10, .t 11, .t 12]), .m 9 13]) (.seq (.ops [.m 14 9, .i 15 (.bin .neq (.t 14) (.n 0))]) (.cond (.t 15) (.seq (.ops [.i 16 (.build [.st (.int .i64 0), .st (.int .i64 0), .full []] []), .m 17 9, .s 3 6 16, .i 7 (.mov (.n 0)), .m 8 17]) .ret) .skip))) (.seq (.ops [.L 18 3 3, .m 19 2, .i 20 (.call 60 [.t 18, .t 19, .c (.one (.fn 61 []))]), .i 21 (.extract 0 (.t 20)), .i 22 (.extract 1 (.t 20)), .i 23 (.extract 2 (.t 20)), .s 3 6 21, .m 7 22, .m 8 23]) .ret)))
theorem ok_reduce_Normal : OkF Tryz.prog 38 24 [] ir_reduce_Normal [.cell 6 true 3, .t 7, .t 8] := .of Tryz.func38 rfl rfl (by kernel_rfl) rfl
def ir_R_App : IR :=
 (.seq (.ops [.i 2 (.box 24 (.t 0)), .i 3 (.box 24 (.t 1)), .i 4 (.alloc 24 [.st (.int .i64 0), .st (.int .i64 0), .full []])]) (.seq (.ops [.L 5 3 2, .L 6 3 3, .i 7 (.buildSlice false 24 3 [.t 5, .t 6]), .i 8 (.build [.st (.int .i64 0), .st (.int .i64 0), .full []] [(0, 1, .n 3), (2, 1, .t 7)]), .s 3 4 8]) .ret))
theorem ok_R_App : OkF Tryz.prog 32 9 [] ir_R_App [.cell 4 true 3] := .of Tryz.func32 rfl rfl (by kernel_rfl) rfl
def ir_R_Fun : IR :=
 (.seq (.ops [.i 1 (.box 24 (.t 0)), .i 2 (.alloc 24 [.st (.int .i64 0), .st (.int .i64 0), .full []])]) (.seq (.ops [.L 3 3 1, .i 4 (.buildSlice false 24 3 [.t 3]), .i 5 (.build [.st (.int .i64 0), .st (.int .i64 0), .full []] [(0, 1, .n 2), (2, 1, .t 4)]), .s 3 2 5]) .ret))
theorem ok_R_Fun : OkF Tryz.prog 35 6 [] ir_R_Fun [.cell 2 true 3] := .of Tryz.func35 rfl rfl (by kernel_rfl) rfl
def ir_R_IsRedex : IR :=
 (.seq (.ops [.i 1 (.box 24 (.t 0)), .i 2 (.mov (.c (.one (.st (.bool false)))))]) (.seq (.ops [.f 3 0 1, .l 4 3, .i 5 (.bin .eql (.t 4) (.n 3)), .m 6 5, .mk (some 7) (some (6, true)) (.fieldAddr 2 (.t 1)) .no, .mk (some 8) (some (6, true)) (.load false 1 (.t 7)) .no, .mk (some 9) (some (6, true)) (.indexAddr 3 (.t 8) (.n 0)) .no, .mk (some 10) (some (6, true)) (.fieldAddr 0 (.t 9)) .no, .mk (some 11) (some (6, true)) (.load false 1 (.t 10)) .no, .mk (some 12) (some (6, true)) (.bin .eql (.t 11) (.n 2)) .no, .i 13 (.pick (.t 6) (.t 12) (.c (.one (.st (.bool false))))), .m 2 13]) .ret))
theorem ok_R_IsRedex : OkF Tryz.prog 53 14 [] ir_R_IsRedex [.t 2] := .of Tryz.func53 rfl rfl (by kernel_rfl) rfl
def ir_R_hasStep : IR :=
 (.seq (.ops [.i 1 (.box 24 (.t 0)), .i 2 (.mov (.c (.one (.st (.bool false)))))]) (.seq (.seq (.ops [.L 4 3 1, .i 5 (.call 53 [.t 4])]) (.cond (.t 5) (.seq (.ops [.i 2 (.mov (.c (.one (.st (.bool true)))))]) .ret) .skip)) (.seq (.seq (.ops [.i 3 (.mov (.n 0))]) (.block 0 (.loop (.seq (.seq (.ops [.m 6 3, .f 7 2 1, .l 8 7, .i 9 (.len false (.t 8)), .i 10 (.bin .lss (.t 6) (.t 9))]) (.cond (.t 10) .skip (.exit 0))) (.seq (.block 1 (.seq (.ops [.f 13 2 1, .l 14 13, .m 15 3, .i 16 (.indexAddr 3 (.t 14) (.t 15)), .L 17 3 16, .i 18 (.call 30 [.t 17])]) (.cond (.t 18) (.seq (.ops [.i 2 (.mov (.c (.one (.st (.bool true)))))]) .ret) .skip))) (.ops [.m 11 3, .i 12 (.bin .add (.t 11) (.n 1)), .m 3 12])))))) (.seq (.ops [.i 2 (.mov (.c (.one (.st (.bool false)))))]) .ret))))
theorem ok_R_hasStep : OkF Tryz.prog 30 19 [] ir_R_hasStep [.t 2] := .of Tryz.func30 rfl rfl (by kernel_rfl) rfl
def ir_R_LamStep : IR :=
 (.seq (.ops [.i 2 (.box 24 (.t 0)), .i 4 (.alloc 24 [.st (.int .i64 0), .st (.int .i64 0), .full []])]) (.seq (.seq (.ops [.L 8 3 2, .i 9 (.call 53 [.t 8]), .m 10 9, .mk (some 11) (some (10, true)) (.mov (.t 1)) .no, .mk (some 12) (some (10, true)) (.un .not (.t 11)) .no, .mk (some 13) (some (10, true)) (.mov (.t 12)) .no, .mk (some 14) (some (13, false)) (.fieldAddr 2 (.t 2)) .no, .mk (some 15) (some (13, false)) (.load false 1 (.t 14)) .no, .mk (some 16) (some (13, false)) (.indexAddr 3 (.t 15) (.n 0)) .no, .mk (some 17) (some (13, false)) (.load true 3 (.t 16)) .no, .mk (some 18) (some (13, false)) (.call 30 [.t 17]) .no, .mk (some 19) (some (13, false)) (.un .not (.t 18)) .no, .mk (some 20) (some (13, false)) (.mov (.t 19)) .no, .mk (some 21) (some (20, true)) (.fieldAddr 2 (.t 2)) .no, .mk (some 22) (some (20, true)) (.load false 1 (.t 21)) .no, .mk (some 23) (some (20, true)) (.indexAddr 3 (.t 22) (.n 1)) .no, .mk (some 24) (some (20, true)) (.load true 3 (.t 23)) .no, .mk (some 25) (some (20, true)) (.call 30 [.t 24]) .no, .mk (some 26) (some (20, true)) (.un .not (.t 25)) .no, .mk (some 27) (some (13, false)) (.pick (.t 20) (.t 26) (.c (.one (.st (.bool false))))) .no, .mk (some 28) (some (10, true)) (.pick (.t 13) (.c (.one (.st (.bool true)))) (.t 27)) .no, .i 29 (.pick (.t 10) (.t 28) (.c (.one (.st (.bool false)))))]) (.cond (.t 29) (.seq (.ops [.f 30 2 2, .l 31 30, .i 32 (.indexAddr 3 (.t 31) (.n 0)), .f 33 2 32, .l 34 33, .i 35 (.indexAddr 3 (.t 34) (.n 0)), .L 36 3 35, .f 37 2 2, .l 38 37, .i 39 (.indexAddr 3 (.t 38) (.n 1)), .L 40 3 39, .i 41 (.call 54 [.t 36, .t 40]), .s 3 4 41]) .ret) .skip)) (.seq (.ops [.f 42 0 2, .l 43 42, .f 44 1 2, .l 45 44, .i 46 (.build [.st (.int .i64 0), .st (.int .i64 0), .full []] [(0, 1, .t 43), (1, 1, .t 45)]), .i 5 (.alloc 24 [.st (.int .i64 0), .st (.int .i64 0), .full []]), .s 3 5 46]) (.seq (.ops [.i 6 (.mov (.c (.one (.st (.bool false)))))]) (.seq (.seq (.ops [.i 7 (.mov (.n 0))]) (.block 0 (.loop (.seq (.seq (.ops [.m 47 7, .f 48 2 2, .l 49 48, .i 50 (.len false (.t 49)), .i 51 (.bin .lss (.t 47) (.t 50))]) (.cond (.t 51) .skip (.exit 0))) (.seq (.block 1 (.seq (.ops [.m 54 6, .i 55 (.un .not (.t 54)), .m 56 55, .mk (some 57) (some (56, true)) (.fieldAddr 2 (.t 2)) .no, .mk (some 58) (some (56, true)) (.load false 1 (.t 57)) .no, .mk (some 59) (some (56, true)) (.mov (.t 7)) .no, .mk (some 60) (some (56, true)) (.indexAddr 3 (.t 58) (.t 59)) .no, .mk (some 61) (some (56, true)) (.load true 3 (.t 60)) .no, .mk (some 62) (some (56, true)) (.call 30 [.t 61]) .no, .i 63 (.pick (.t 56) (.t 62) (.c (.one (.st (.bool false)))))]) (.cond (.t 63) (.seq (.ops [.f 64 2 5, .l 65 64, .f 66 2 2, .l 67 66, .m 68 7, .i 69 (.indexAddr 3 (.t 67) (.t 68)), .L 70 3 69, .m 71 1, .i 72 (.call 31 [.t 70, .t 71]), .i 73 (.buildSlice false 24 3 [.t 72]), .i 74 (.append false 24 3 40 (.t 65) (.t 73)), .f 75 2 5, .s 1 75 74]) (.ops [.i 6 (.mov (.c (.one (.st (.bool true)))))])) (.ops [.f 76 2 5, .l 77 76, .f 78 2 2, .l 79 78, .m 80 7, .i 81 (.indexAddr 3 (.t 79) (.t 80)), .L 82 3 81, .i 83 (.buildSlice false 24 3 [.t 82]), .i 84 (.append false 24 3 40 (.t 77) (.t 83)), .f 85 2 5, .s 1 85 84])))) (.ops [.m 52 7, .i 53 (.bin .add (.t 52) (.n 1)), .m 7 53])))))) (.seq (.ops [.L 86 3 5, .s 3 4 86]) .ret))))))
theorem ok_R_LamStep : OkF Tryz.prog 31 87 [] ir_R_LamStep [.cell 4 true 3] := .of Tryz.func31 rfl rfl (by kernel_rfl) rfl
def ir_R_LamEnd : IR :=
 (.seq (.ops [.i 3 (.box 24 (.t 0)), .i 6 (.alloc 24 [.st (.int .i64 0), .st (.int .i64 0), .full []]), .i 7 (.mov (.n 0)), .i 8 (.mov (.n 0))]) (.seq (.ops [.i 9 (.mov (.n 0))]) (.seq (.block 0 (.loop (.seq (.seq (.ops [.L 10 3 3, .i 11 (.call 30 [.t 10])]) (.cond (.t 11) .skip (.exit 0))) (.block 1 (.seq (.seq (.ops [.m 12 9, .m 13 1, .i 14 (.bin .eql (.t 12) (.t 13))]) (.cond (.t 14) (.seq (.ops [.i 15 (.build [.st (.int .i64 0), .st (.int .i64 0), .full []] []), .s 3 6 15, .i 7 (.mov (.n 0)), .i 8 (.mov (.n 9))]) .ret) .skip)) (.seq (.ops [.L 16 3 3, .m 17 2, .i 18 (.call 31 [.t 16, .t 17]), .s 3 3 18]) (.seq (.ops [.m 19 9, .i 20 (.bin .add (.t 19) (.n 1)), .m 9 20]) (.seq (.ops [.L 21 3 3, .i 22 (.call 10 [.t 21, .n 2000]), .i 23 (.bin .gtr (.t 22) (.n 2000))]) (.cond (.t 23) (.seq (.ops [.i 24 (.build [.st (.int .i64 0), .st (.int .i64 0), .full []] []), .s 3 6 24, .i 7 (.mov (.n 0)), .i 8 (.mov (.n 8))]) .ret) .skip))))))))) (.seq (.ops [.L 25 3 3, .m 26 9, .s 3 6 25, .m 7 26, .i 8 (.mov (.n 0))]) .ret))))
theorem ok_R_LamEnd : OkF Tryz.prog 13 27 [] ir_R_LamEnd [.cell 6 true 3, .t 7, .t 8] := .of Tryz.func13 rfl rfl (by kernel_rfl) rfl

end Go.Proofs.YtkjlddlllofenaaGreatDoor
