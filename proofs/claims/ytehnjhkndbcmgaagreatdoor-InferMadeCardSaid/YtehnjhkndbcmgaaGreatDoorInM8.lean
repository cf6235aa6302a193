/-
  Part 8 of the texts: Data; AbsT; AbsU; BEnds; BHand; IrBld; BBld. Conditions: none.
-/
import Derived.Test.YtehnjhkndbcmgaaGreatDoorInM7
import Derived.Lib.FrozenHead2
import Derived.Lib.OthersKept
import Derived.Shelf.Strings.BuilderK
namespace Go.Proofs.YtehnjhkndbcmgaaGreatDoor
open Go Go.RowKit
set_option linter.unusedVariables false
open Cod (wid dat)
inductive Tm where
  | mk (name : ByteArray) (args : List Tm)
def Tm.name : Tm → ByteArray | .mk n _ => n
def Tm.args : Tm → List Tm | .mk _ xs => xs
theorem Tm.eta (t : Tm) : Tm.mk t.name t.args = t := by cases t; rfl
mutual
def Tm.dat : Tm → Dat
  | .mk n xs => .agg [.str n, .row 2 (Tm.dats xs)]
def Tm.dats : List Tm → List Dat
  | [] => []
  | t :: ts => t.dat :: Tm.dats ts
end
theorem Tm.dats_eq : ∀ xs : List Tm, Tm.dats xs = xs.map Tm.dat
  | [] => rfl
  | t :: ts => by rw [Tm.dats, Tm.dats_eq ts]; rfl
theorem Tm.dat_is {σ : Sto} {n : ByteArray} {xs : List Tm} {cs : List Value} (h : (Tm.dat (.mk n xs)).Is σ cs) :
    ∃ p len cap, cs = [.string n, .slice p len cap] ∧ n.size ≤ maxLen ∧ len = xs.length ∧ len ≤ cap ∧ cap ≤ maxLen ∧ (p = none → cap = 0) ∧ ∃ b o, (len ≠ 0 → p = some ⟨b, o, none⟩) ∧ Dat.RowIs σ 2 (xs.map Tm.dat) b o := by
  rw [Tm.dat, Tm.dats_eq] at h
  obtain ⟨x, y, rfl, ⟨rfl, hn⟩, x', y', rfl, ⟨p, len, cap, rfl, hl, r⟩, rfl⟩ := h
  exact ⟨p, len, cap, rfl, hn, by simpa using hl, r⟩
instance : Cod Tm := ⟨2, Tm.dat, fun σ t cs h => by
  cases t
  obtain ⟨p, len, cap, rfl, _⟩ := Tm.dat_is h
  rfl⟩
theorem cells_tm {σ : Sto} {cs : List Value} {t : Tm} : Cells σ cs t ↔ ∃ p len cap, cs = [.string t.name, .slice p len cap] ∧ t.name.size ≤ maxLen ∧ Slc σ p len cap t.args := by
  cases t with
  | mk n xs =>
  constructor
  · intro h
    obtain ⟨p, len, cap, h1, h2, h3⟩ := Tm.dat_is h
    exact ⟨p, len, cap, h1, h2, h3⟩
  · rintro ⟨p, len, cap, rfl, h2, h3, h4⟩
    show (Tm.dat (.mk n xs)).Is σ _
    rw [Tm.dat, Tm.dats_eq]
    exact ⟨[.string n], [.slice p len cap], rfl, ⟨rfl, h2⟩, [.slice p len cap], [], rfl, ⟨p, len, cap, rfl, by show len = (xs.map Tm.dat).length; rw [List.length_map]; exact h3, h4⟩, rfl⟩
def TmV (σ : Sto) (v : Value) (t : Tm) : Prop := ∃ p len cap, v = .agg #[.string t.name, .slice p len cap] ∧ t.name.size ≤ maxLen ∧ Slc σ p len cap t.args
theorem TmV.ext {σ σ' : Sto} {N : Nat} {v : Value} {t : Tm} (h : TmV σ v t) (he : Ext N σ σ') : TmV σ' v t := by
  obtain ⟨p, len, cap, h1, h2, h3⟩ := h
  exact ⟨p, len, cap, h1, h2, h3.ext he⟩
theorem Slc.tm {σ : Sto} {p : Option Addr} {len cap : Nat} {xs : List Tm} (h : Slc σ p len cap xs) (k : Nat) (hk : k < len) :
    ∃ b o a q l c, p = some ⟨b, o, none⟩ ∧ Hid (xs[k]? = some a) ∧ σ ⟨b, o + k * 2, none⟩ = some (.string a.name) ∧ σ ⟨b, o + k * 2 + 1, none⟩ = some (.slice q l c) ∧ a.name.size ≤ maxLen ∧ Slc σ q l c a.args := by
  have hl := h.length
  obtain ⟨b, o, hp, cs, h1, h2, h3⟩ := h.get k (by omega)
  obtain ⟨q, l, c, rfl, h4, h5⟩ := cells_tm.1 h3
  exact ⟨b, o, xs[k], q, l, c, hp, Lib.hid (List.getElem?_eq_getElem (by omega)), h2 0 _ rfl, h2 1 _ rfl, h4, h5⟩
theorem Slc.str {σ : Sto} {p : Option Addr} {len cap : Nat} {xs : List ByteArray} (h : Slc σ p len cap xs) (k : Nat) (hk : k < len) :
    ∃ b o a, p = some ⟨b, o, none⟩ ∧ Hid (xs[k]? = some a) ∧ σ ⟨b, o + k, none⟩ = some (.string a) ∧ a.size ≤ maxLen := by
  have hl := h.length
  obtain ⟨b, o, hp, cs, h1, h2, h3⟩ := h.get k (by omega)
  obtain ⟨rfl, h4⟩ := cells_str.1 h3
  have := h2 0 _ rfl
  exact ⟨b, o, xs[k], hp, Lib.hid (List.getElem?_eq_getElem (by omega)), by simpa [Cod.wid] using this, h4⟩
theorem wf_bounds {n : Int} (h : (Lit.int .i64 n).wf = true) : -9223372036854775808 ≤ n ∧ n ≤ 9223372036854775807 := by
  simpa [Lit.wf, IntKind.min, IntKind.max, IntKind.signed, IntKind.bits] using h
theorem Slc.int {σ : Sto} {p : Option Addr} {len cap : Nat} {xs : List Int} (h : Slc σ p len cap xs) (k : Nat) (hk : k < len) :
    ∃ b o a, p = some ⟨b, o, none⟩ ∧ Hid (xs[k]? = some a) ∧ σ ⟨b, o + k, none⟩ = some (.int .i64 a) ∧ -9223372036854775808 ≤ a ∧ a ≤ 9223372036854775807 := by
  have hl := h.length
  obtain ⟨b, o, hp, cs, h1, h2, h3⟩ := h.get k (by omega)
  obtain ⟨rfl, h4⟩ := cells_int.1 h3
  have := h2 0 _ rfl
  exact ⟨b, o, xs[k], hp, Lib.hid (List.getElem?_eq_getElem (by omega)), by simpa [Cod.wid] using this, wf_bounds h4⟩
theorem take_snoc {α : Type} {xs : List α} {k : Nat} {a : α} (h : xs[k]? = some a) : xs.take (k + 1) = xs.take k ++ [a] := by
  rw [List.take_add_one, h]; rfl
theorem lt_of_get {α : Type} {xs : List α} {k : Nat} {a : α} (h : xs[k]? = some a) : k < xs.length := by
  rcases Nat.lt_or_ge k xs.length with h' | h'
  · exact h'
  · rw [List.getElem?_eq_none h'] at h; cases h
theorem mem_of_get {α : Type} {xs : List α} {k : Nat} {a : α} (h : xs[k]? = some a) : a ∈ xs := List.mem_of_getElem? h
theorem Tm.lt_of_mem {a : Tm} {n : ByteArray} {xs : List Tm} (h : a ∈ xs) : SizeOf.sizeOf a < SizeOf.sizeOf (Tm.mk n xs) := by
  have := List.sizeOf_lt_of_mem h
  simp only [Tm.mk.sizeOf_spec]
  omega
end Go.Proofs.YtehnjhkndbcmgaaGreatDoor

namespace Go.Proofs.YtehnjhkndbcmgaaGreatDoor
open Go Go.RowKit
set_option linter.unusedVariables false
theorem guard_ite (c P Q : Prop) [Decidable c] : ((c → P) ∧ (¬ c → Q)) = if c then P else Q := by
  by_cases h : c <;> simp [h]
theorem ite_conj {c A B : Prop} [Decidable c] (h : (c → A) ∧ (¬ c → B)) : if c then A else B := by
  by_cases hc : c
  · rw [if_pos hc]; exact h.1 hc
  · rw [if_neg hc]; exact h.2 hc
theorem pick_ite (b : Bool) (P Q : Prop) : ((b = true → P) ∧ (b = false → Q)) = if b = true then P else Q := by
  cases b <;> simp
attribute [congr] CallK.congr CallSK.congr
mutual
def encT : Tm → List SV
  | .mk n xs => [.str n, .list (encTs xs)]
def encTs : List Tm → List (List SV)
  | [] => []
  | t :: ts => encT t :: encTs ts
end
theorem encTs_eq : ∀ xs : List Tm, encTs xs = xs.map encT
  | [] => rfl
  | t :: ts => by rw [encTs, encTs_eq ts]; rfl
theorem encT_eq (t : Tm) : encT t = [.str t.name, .list (t.args.map encT)] := by
  cases t
  rw [encT, encTs_eq]
  rfl
theorem len_encT (t : Tm) : (encT t).length = 2 := by rw [encT_eq]; rfl
class Lens {α : Type} (f : α → List SV) (n : outParam Nat) : Prop where
  ok : ∀ a, (f a).length = n
theorem lens {α : Type} {f : α → List SV} {n : Nat} [h : Lens f n] {ts : List α} : ∀ x ∈ ts.map f, x.length = n := fun x hx => by
  obtain ⟨a, _, rfl⟩ := List.mem_map.1 hx
  exact h.ok a
instance : Lens encT 2 := ⟨fun t => by rw [encT_eq]; rfl⟩
theorem lens_encT {ts : List Tm} : ∀ x ∈ ts.map encT, x.length = 2 := by
  intro x hx
  obtain ⟨a, _, rfl⟩ := List.mem_map.1 hx
  exact len_encT a
theorem Tm.args_mk (n : ByteArray) (xs : List Tm) : (Tm.mk n xs).args = xs := rfl
theorem Tm.name_mk (n : ByteArray) (xs : List Tm) : (Tm.mk n xs).name = n := rfl
abbrev aInt (n : Int) : AV := .one (.st (.int .i64 n))
abbrev aBool (b : Bool) : AV := .one (.st (.bool b))
abbrev aStr (s : ByteArray) : AV := .one (.st (.str s))
abbrev aTm (t : Tm) : AV := .agg [.st (.str t.name), .st (.list (t.args.map encT))]
abbrev encI (n : Int) : List SV := [.int .i64 n]
abbrev encS (s : ByteArray) : List SV := [.str s]
abbrev aInts (l : List Int) : AV := .one (.st (.list (l.map encI)))
abbrev aStrs (l : List ByteArray) : AV := .one (.st (.list (l.map encS)))
abbrev aTms (l : List Tm) : AV := .one (.st (.list (l.map encT)))
theorem get_lt {α : Type} {xs : List α} {k : Nat} (h : k < xs.length) : ∃ a, xs[k]? = some a := ⟨xs[k], List.getElem?_eq_getElem h⟩
theorem inR_i64 (n : Int) : inR .i64 n ↔ -9223372036854775808 ≤ n ∧ n ≤ 9223372036854775807 := by
  simp [inR, IntKind.min, IntKind.max, IntKind.signed, IntKind.bits]
theorem known_ints {l : List Int} (h : (SV.list (l.map encI)).known) : l.length ≤ maxLen ∧ ∀ n ∈ l, inR .i64 n := by
  obtain ⟨h1, h2⟩ := h
  refine ⟨by simpa using h1, fun n hn => ?_⟩
  have := knownL_iff.1 (knownLL_iff.1 h2 (encI n) (List.mem_map.2 ⟨n, hn, rfl⟩)) (.int .i64 n) (by simp)
  exact this
theorem maxLen_eq : maxLen = 9223372036854775807 := by simp [maxLen]
theorem known_len {S : AStore} {xs : List (List SV)} (h : (AV.one (.st (.list xs))).known S) : xs.length ≤ 9223372036854775807 := by
  simp only [AV.known, AC.known, SV.known] at h
  rw [maxLen_eq] at h
  exact h.1
theorem known_tm {S : AStore} {t : Tm} (h : (aTm t).known S) : t.name.size ≤ 9223372036854775807 ∧ t.args.length ≤ 9223372036854775807 := by
  have h1 : t.name.size ≤ maxLen := by
    have := h (.st (.str t.name)) (by simp)
    simpa [AC.known, SV.known] using this
  have h2 : t.args.length ≤ maxLen := by
    have := h (.st (.list (t.args.map encT))) (by simp)
    simp only [AC.known, SV.known, List.length_map] at this
    exact this.1
  rw [maxLen_eq] at h1 h2
  exact ⟨h1, h2⟩
end Go.Proofs.YtehnjhkndbcmgaaGreatDoor

namespace Go.Proofs.YtehnjhkndbcmgaaGreatDoor
open Go Go.RowKit
set_option linter.unusedVariables false
def Kd.isCall : Kd → Bool
  | .call _ _ => true
  | .callS _ _ => true
  | .callV _ _ => true
  | .callN _ _ => true
  | .callR _ _ => true
  | .callW _ _ => true
  | .buildFlat _ => false
  | .cutP _ _ _ => false
  | .indexP _ _ _ => false
  | .appP _ _ _ _ _ => false
  | .restP _ _ _ => false
  | .appS _ _ _ => false
  | .loadL _ _ _ => false
  | .indexL _ _ _ => false
  | .buildL _ _ => false
  | .fieldL _ _ => false
  | .clearP _ _ _ _ => false
  | .mov _ => false
  | .pick _ _ _ => false
  | .alloc _ _ => false
  | .box _ _ => false
  | .build _ _ => false
  | .buildSlice _ _ _ _ => false
  | .load _ _ _ => false
  | .store _ _ _ => false
  | .fieldAddr _ _ => false
  | .field _ _ _ _ => false
  | .indexAddr _ _ _ => false
  | .indexArr _ _ _ _ => false
  | .indexStr _ _ => false
  | .bin _ _ _ => false
  | .eqB _ _ _ => false
  | .eqN _ _ => false
  | .eqE _ _ => false
  | .never => false
  | .pan _ => false
  | .iface _ _ => false
  | .strOf _ => false
  | .un _ _ => false
  | .sliceS _ _ _ => false
  | .sliceL _ _ _ _ => false
  | .extract _ _ => false
  | .len _ _ => false
  | .append _ _ _ _ _ _ => false
  | .conv _ _ => false
  | .nilCheck _ => false
  | .mm _ _ _ => false
  | .makeSlice _ _ _ _ _ _ => false
  | .makeFunc _ _ => false
  | .makeMap _ => false
  | .lookup _ _ _ _ _ => false
  | .mapSet _ _ _ _ => false
  | .mapEntry _ _ _ _ => false
  | .entrySet _ _ _ => false
  | .rangeM _ => false
  | .next _ => false
  | .entry _ => false
  | .lenM _ => false
  | .buildArr _ => false
  | .makeMemo => false
  | .memoGet _ _ _ _ => false
  | .memoSet _ _ _ => false
inductive CallG (P : Program) (f : FuncId) (vs : List AV) (d : Option Nat) (l : List Ins) (s : AS) (K : AS → Prop) : Prop
  | mk (r : AV) (h1 : ACalls P f vs r) (h2 : Run P l (s.put d r) K)
inductive CallSG (P : Program) (f : FuncId) (vs : List AV) (S : AStore) (ks : List Nat) (d : Option Nat) (l : List Ins) (env : Nat → AV) (K : AS → Prop) : Prop
  | mk (r : AV) (S' : AStore) (h1 : ACallsS P f vs (upS S) r S') (h2 : (∀ k ∈ ks, dnS S' k = S k) ∧ Run P l ((⟨env, dnS S'⟩ : AS).put d (r.ren dn1)) K)
inductive CallNG (P : Program) (f : FuncId) (vs : List AV) (ks : List Nat) (d : Option Nat) (l : List Ins) (s : AS) (K : AS → Prop) : Prop
  | mk (mu : Bool) (e : TypeId) (w : Nat) (ys : List (List SV)) (h1 : ACallsN P f vs e w ys mu) (h2 : s.S (d.getD 0) = none ∧ (∀ k ∈ ks, (s.set (d.getD 0) (rowB mu e w ys)).S k = s.S k) ∧ Run P l ((s.set (d.getD 0) (rowB mu e w ys)).put d (.one (.row (d.getD 0) ys.length))) K)
inductive CallRG (P : Program) (f : FuncId) (vs : List AV) (d : Option Nat) (l : List Ins) (s : AS) (K : AS → Prop) : Prop
  | mk (r : AV) (rows : List (Nat × ABlk)) (h0 : ∀ q ∈ rows, s.S q.1 = some q.2) (h1 : ∀ T : AStore, (∀ q ∈ rows, T q.1 = some q.2) → ACallsS P f vs (upS T) r (upS T)) (h2 : Run P l (s.put d (r.ren dn1)) K)
inductive CallWG (P : Program) (f : FuncId) (vs : List AV) (ks : List Nat) (d : Option Nat) (l : List Ins) (s : AS) (K : AS → Prop) : Prop
  | mk (r : AV) (rows : List (Nat × ABlk × ABlk)) (h0 : holdS s.S rows) (h1 : ∀ T : AStore, holdS T rows → ACallsS P f vs (upS T) r (upS (turnS T rows))) (h2 : (∀ k ∈ ks, turnS s.S rows k = s.S k) ∧ Run P l ((⟨s.env, turnS s.S rows⟩ : AS).put d (r.ren dn1)) K)
theorem rows_one {S : AStore} {i : Nat} {b : ABlk} (h : S i = some b) : ∀ q ∈ [(i, b)], S q.1 = some q.2 := fun q hq => by rw [List.mem_singleton.1 hq]; exact h
def Kd.goC (P : Program) (d : Option Nat) (s : AS) (t : Tag) (l : List Ins) (K : AS → Prop) : Kd → Prop
  | .call f xs => match t with
    | .no => match outVs s.S (s.evs xs) with
      | some vs => CallG P f vs d l s K
      | none => False
    | _ => False
  | .callR f xs => match t with
    | .no => CallRG P f (AV.rens up1 (s.evs xs)) d l s K
    | _ => False
  | .callW f xs => match t with
    | .no => CallWG P f (AV.rens up1 (s.evs xs)) [] d l s K
    | .keeps ks => CallWG P f (AV.rens up1 (s.evs xs)) ks d l s K
    | .onb _ => False
  | .callN f xs => match t with
    | .no => match outVs s.S (s.evs xs) with
      | some vs => CallNG P f vs [] d l s K
      | none => False
    | .keeps ks => match outVs s.S (s.evs xs) with
      | some vs => CallNG P f vs ks d l s K
      | none => False
    | .onb _ => False
  | .callS f xs => match t with
    | .no => CallSG P f (AV.rens up1 (s.evs xs)) s.S [] d l s.env K
    | .keeps ks => CallSG P f (AV.rens up1 (s.evs xs)) s.S ks d l s.env K
    | .onb _ => False
  | .callV f xs => match s.ev f with
    | .one (.fn g caps) => plainF P g = true ∧ match t with
      | .no => CallSG P g (AV.rens up1 (s.evs xs ++ caps.map .one)) s.S [] d l s.env K
      | .keeps ks => CallSG P g (AV.rens up1 (s.evs xs ++ caps.map .one)) s.S ks d l s.env K
      | .onb _ => False
    | _ => False
  | _ => False
def Run2 (P : Program) : List Ins → AS → (AS → Prop) → Prop
  | [], s, K => K s
  | i :: l, s, K => match i.kd.isCall with
    | false => match i.guard with
      | none => i.kd.goT P (i.dst.getD 0) s i.tag fun v s' => Run2 P l (s'.put i.dst v) K
      | some (g, want) => match s.env g with
        | .one (.st (.bool b)) => (b = want → i.kd.goT P (i.dst.getD 0) s i.tag fun v s' => Run2 P l (s'.put i.dst v) K) ∧ (¬ b = want → Run2 P l (s.put i.dst (.tup [])) K)
        | .tup [] => Run2 P l (s.put i.dst (.tup [])) K
        | _ => False
    | true => match i.guard with
      | none => i.kd.goC P i.dst s i.tag l K
      | some (g, want) => match s.env g with
        | .one (.st (.bool b)) => (b = want → i.kd.goC P i.dst s i.tag l K) ∧ (¬ b = want → Run2 P l (s.put i.dst (.tup [])) K)
        | .tup [] => Run2 P l (s.put i.dst (.tup [])) K
        | _ => False
section
variable {P : Program}
theorem goC_run {kd : Kd} {d : Option Nat} {s : AS} {t : Tag} {l : List Ins} {K : AS → Prop} (h : kd.goC P d s t l K) : kd.goT P (d.getD 0) s t fun v s' => Run P l (s'.put d v) K := by
  cases kd <;> simp only [Kd.goC] at h
  case call f xs =>
    cases t <;> simp only at h
    split at h
    · rename_i vs e
      obtain ⟨r, h1, h2⟩ := h
      simp only [Kd.goT, Kd.go, e]
      exact ⟨r, h1, trivial, h2⟩
    · exact h.elim
  case callN f xs =>
    cases t <;> simp only at h
    · split at h
      · rename_i vs e
        obtain ⟨mu, ty, w, ys, h1, h2, _, h3⟩ := h
        simp only [Kd.goT, Kd.go, e]
        exact ⟨mu, ty, w, ys, h1, h2, trivial, h3⟩
      · exact h.elim
    · split at h
      · rename_i vs e
        obtain ⟨mu, ty, w, ys, h1, h2, h4, h3⟩ := h
        simp only [Kd.goT, Kd.go, e]
        exact ⟨mu, ty, w, ys, h1, h2, h4, h3⟩
      · exact h.elim
  case callW f xs =>
    cases t <;> simp only at h
    · obtain ⟨r, rows, h0, h1, _, h2⟩ := h
      simp only [Kd.goT, Kd.go]
      exact ⟨r, rows, h0, h1, trivial, h2⟩
    · obtain ⟨r, rows, h0, h1, hk, h2⟩ := h
      simp only [Kd.goT, Kd.go]
      exact ⟨r, rows, h0, h1, hk, h2⟩
  case callR f xs =>
    cases t <;> simp only at h
    obtain ⟨r, rows, h0, h1, h2⟩ := h
    simp only [Kd.goT, Kd.go]
    exact ⟨r, rows, h0, h1, trivial, h2⟩
  case callS f xs =>
    cases t <;> simp only at h
    · obtain ⟨r, S', h1, h2, h3⟩ := h
      exact ⟨r, S', h1, trivial, h3⟩
    · obtain ⟨r, S', h1, h2, h3⟩ := h
      exact ⟨r, S', h1, h2, h3⟩
  case callV f xs =>
    split at h
    · rename_i g caps e
      obtain ⟨hp, h⟩ := h
      cases t <;> simp only at h
      · obtain ⟨r, S', h1, h2, h3⟩ := h
        simp only [Kd.goT, Kd.go, e]
        exact ⟨hp, r, S', h1, trivial, h3⟩
      · obtain ⟨r, S', h1, h2, h3⟩ := h
        simp only [Kd.goT, Kd.go, e]
        exact ⟨hp, r, S', h1, h2, h3⟩
    · exact h.elim
theorem run2_run : ∀ {l : List Ins} {s : AS} {K : AS → Prop}, Run2 P l s K → Run P l s K
  | [], s, K, h => h
  | i :: l, s, K, h => by
    unfold Run2 at h
    unfold Run
    split at h
    · split at h
      · rename_i e
        simp only [e]
        exact goT_mono h fun v s' _ h' => run2_run h'
      · rename_i g want e
        simp only [e]
        split at h
        · rename_i b e2
          simp only [e2]
          exact ⟨fun hb => goT_mono (h.1 hb) fun v s' _ h' => run2_run h', fun hb => run2_run (h.2 hb)⟩
        · rename_i e2
          simp only [e2]
          exact run2_run h
        · exact h.elim
    · split at h
      · rename_i e
        simp only [e]
        exact goC_run h
      · rename_i g want e
        simp only [e]
        split at h
        · rename_i b e2
          simp only [e2]
          exact ⟨fun hb => goC_run (h.1 hb), fun hb => run2_run (h.2 hb)⟩
        · rename_i e2
          simp only [e2]
          exact run2_run h
        · exact h.elim
theorem keep_run2 {l : List Ins} {s : AS} {K : AS → Prop} {A : Prop} (h : A ∧ Run2 P l s K) : A ∧ Run P l s K := ⟨h.1, run2_run h.2⟩
theorem IWP.ops2 {C : Ctx} {mu : List Nat} {Q : AX → AS → Prop} {s : AS} {l : List Ins} (h : ∀ K : AS → Prop, (∀ s, Q .normal s → K s) → Run2 P l s K) : IWP P C mu (.ops l) Q s := IWP.opsK fun K hK => run2_run (h K hK)
end
attribute [go_sem] Ins.i Opd.n rowB turnS Run2 Kd.isCall Kd.goC Kd.goT Tag.ok Kd.ptrOpd ptrIs List.forall_mem_cons List.not_mem_nil Kd.go AS.ev AS.evs AS.put AS.set updE AV.cells fills elems elemsP stP stPs stC stCs outC outCs outV outVs flats blkCells idxK listOf cutOf lenOfA binI binS optI pack splice ABlk.len AS.start AS.startS noS List.getElem?_cons_zero List.getElem?_cons_succ List.getElem?_nil List.getElem?_map Option.isSome_none Option.isSome_some Option.map_some Option.map_none Option.getD_some Option.getD_none List.length_map List.length_cons List.length_nil List.length_append List.map_cons List.map_nil List.take_succ_cons List.take_zero List.take_nil List.drop_succ_cons List.drop_zero List.drop_nil List.nil_append List.cons_append List.append_nil Nat.zero_add Nat.add_zero Nat.le_refl Nat.zero_le if_true if_false Bool.false_eq_true true_and and_true Option.some.injEq Int.toNat_natCast Int.natCast_nonneg Int.ofNat_eq_natCast ite_self decide_true decide_false not_true_eq_false not_false_eq_true true_implies false_implies implies_true Bool.true_eq_false eq_self Bool.not_true Bool.not_false beq_self_eq_true Tm.args_mk Tm.name_mk AV.rens AV.ren AC.ren AC.rens ABlk.ren upS_up dn_up dnS_upd dn_upS
theorem upS_set (T : AStore) (i : Nat) (b : ABlk) : upS (updE T i (some b)) = updE (upS T) (up1 i) (some (b.ren up1)) := by
  funext k
  show (if k < 1000 then none else (updE T i (some b) (k - 1000)).map (ABlk.ren up1)) = _
  by_cases e : k = up1 i
  · subst e
    rw [updE_same, if_neg (by have := up1_le i; omega), show up1 i - 1000 = i from dn_up i, updE_same]
    rfl
  · rw [updE_ne _ e]
    by_cases hk : k < 1000
    · rw [if_pos hk]
      show none = if k < 1000 then none else _
      rw [if_pos hk]
    · rw [if_neg hk, updE_ne _ (fun h => e (by rw [← h]; exact (up_dn (by omega)).symm))]
      show _ = if k < 1000 then none else _
      rw [if_neg hk]
abbrev Wa := @IWP.seq
abbrev Wb := @seqQ_normal
abbrev Wc := @IWP.block
abbrev Wd := @IWP.skip
abbrev We := @IWP.exit
abbrev Wg := @seqQ_exit
abbrev Wh := @seqQ_ret
abbrev Wi := @inBlock_normal
abbrev Wj := @inBlock_here
abbrev Wk := @inBlock_away
abbrev Wl := @inBlock_ret
abbrev Wm := @then_exit
abbrev Wn := @then_ret
abbrev Wo := @IWP.ops2
abbrev Wp := @IWP.cond
abbrev Wq := @run2_run
abbrev Wr := @keep_run2
abbrev iC := @ite_conj
abbrev Cg := @CallG.mk
abbrev gI := @guard_ite
abbrev pI := @pick_ite
abbrev dT := @decide_eq_true_eq
abbrev dF := @decide_eq_false_iff_not
abbrev nL := @Int.ofNat_lt
abbrev eT := @encT_eq
abbrev iR := @inR_i64
theorem fN {α : Type} (p : α → Prop) : ∀ x ∈ ([] : List α), p x := List.forall_mem_nil p
class Step (goal : Prop) (prev : outParam Prop) : Prop where
  imp : prev → goal
theorem W {goal prev : Prop} [s : Step goal prev] (h : prev) : goal := s.imp h
section
variable {P : Program} {C : Ctx} {mu : List Nat} {x y : IR} {Q : AX → AS → Prop} {s : AS} {id : Nat} {K : AS → Prop}
instance : Step (IWP P C mu (.seq x y) Q s) (IWP P C mu x (seqQ P C mu y Q) s) := ⟨IWP.seq⟩
instance : Step (seqQ P C mu y Q .normal s) (IWP P C mu y Q s) := ⟨seqQ_normal⟩
instance : Step (IWP P C mu (.block id x) Q s) (IWP P C mu x (AX.inBlock id Q) s) := ⟨IWP.block⟩
instance : Step (IWP P C mu .skip Q s) (Q .normal s) := ⟨IWP.skip⟩
instance : Step (IWP P C mu (.exit id) Q s) (Q (.exit id) s) := ⟨IWP.exit⟩
instance : Step (IWP P C mu .ret Q s) (Q .ret s) := ⟨IWP.ret⟩
instance : Step (seqQ P C mu y Q (.exit id) s) (Q (.exit id) s) := ⟨seqQ_exit⟩
instance : Step (seqQ P C mu y Q .ret s) (Q .ret s) := ⟨seqQ_ret⟩
instance : Step (AX.inBlock id Q .normal s) (Q .normal s) := ⟨inBlock_normal⟩
instance : Step (AX.inBlock id Q (.exit id) s) (Q .normal s) := ⟨inBlock_here⟩
instance : Step (AX.inBlock id Q .ret s) (Q .ret s) := ⟨inBlock_ret⟩
instance : Step (AX.then K Q (.exit id) s) (Q (.exit id) s) := ⟨then_exit⟩
instance : Step (AX.then K Q .ret s) (Q .ret s) := ⟨then_ret⟩
class StepC (goal : Prop) (prev : outParam Prop) : Prop where
  imp : prev → goal
class StepB (goal : Prop) (prev : outParam Prop) : Prop where
  imp : prev → goal
theorem U {goal prev : Prop} [s : StepC goal prev] (h : prev) : goal := s.imp h
instance {l : List Ins} : StepC (Run P l s K) (Run2 P l s K) := ⟨run2_run⟩
instance {l : List Ins} {A : Prop} : StepC (A ∧ Run P l s K) (A ∧ Run2 P l s K) := ⟨keep_run2⟩
instance {l : List Ins} : StepB (Run P l s K) (Run2 P l s K) := ⟨run2_run⟩
instance {l : List Ins} {A : Prop} : StepB (A ∧ Run P l s K) (A ∧ Run2 P l s K) := ⟨keep_run2⟩
instance {c0 : Opd} : StepB (IWP P C mu (.cond c0 x y) Q s) (match s.ev c0 with | .one (.st (.bool b)) => (b = true → IWP P C mu x Q s) ∧ (b = false → IWP P C mu y Q s) | .one .ubool => IWP P C mu x Q s ∧ IWP P C mu y Q s | _ => False) := ⟨IWP.cond⟩
end
theorem IWP.fresh {P : Program} {C : Ctx} {mu : List Nat} {x : IR} {Q : AX → AS → Prop} {s : AS} (h1000 : ∀ i, 1000 ≤ i → s.S i = none) (h : ∀ env' : Nat → AV, (∀ i v, s.env i = .one (.st v) → env' i = .one (.st v)) → IWP P C mu x Q ⟨env', noS⟩) : IWP P C mu x Q s := by
  refine IWP.ghost (Ghost.low (s := s) fun i b hi hb => by rw [h1000 i hi] at hb; cases hb) ?_
  have e : lowS s.S = noS := by
    funext i
    show (if i < 1000 then none else s.S i) = none
    split
    · rfl
    · exact h1000 i (by omega)
  rw [e]
  exact h _ fun i v hv => by rw [hv]; rfl
theorem IWP.mid {P : Program} {C : Ctx} {mu : List Nat} {x y : IR} {Q : AX → AS → Prop} {s : AS} (M : AS → Prop) (h1 : IWP P C mu x (fun e s => e = .normal ∧ M s) s) (h2 : ∀ s, M s → IWP P C mu y Q s) : IWP P C mu (x.seq y) Q s :=
  IWP.seq (h1.mono fun e s ⟨he, hm⟩ => by subst he; exact seqQ_normal (h2 s hm))
theorem once {R G : Prop} (f : R → G) (h : R) : G := f h
end Go.Proofs.YtehnjhkndbcmgaaGreatDoor

namespace Go.Proofs.YtehnjhkndbcmgaaGreatDoor
open Go Go.RowKit
set_option linter.unusedVariables false
theorem purgeS {ds : List Nat} (hds : ∀ d ∈ ds, d < 1000) {x : Option ABlk} (hb : ∀ b, x = some b → b.high = true) : x.map (ABlk.purge ds) = x := by
  cases h : x with
  | none => rfl
  | some b => rw [Option.map_some, ABlk.purge_high hds (hb b h)]
theorem lowS_is {S S1 : AStore} {a0 : Nat} {b : ABlk} (hS : Clean S) (ha : 1000 ≤ a0) (h1 : S1 a0 = some b) (h2 : ∀ i, 1000 ≤ i → i ≠ a0 → S1 i = S i) : lowS S1 = updE S a0 (some b) := by
  funext i
  show (if i < 1000 then none else S1 i) = _
  by_cases e : i = a0
  · subst e
    rw [if_neg (by omega), updE_same, h1]
  · rw [updE_ne _ e]
    by_cases hi : i < 1000
    · rw [if_pos hi, clean_none hS hi]
    · rw [if_neg hi, h2 i (by omega) e]
theorem highs_is {S S1 : AStore} {a0 : Nat} {b : ABlk} (hS : Clean S) (hb : b.high = true) (h1 : S1 a0 = some b) (h2 : ∀ i, 1000 ≤ i → i ≠ a0 → S1 i = S i) : ∀ i c, 1000 ≤ i → S1 i = some c → c.high = true := fun i c hi hc => by
  by_cases e : i = a0
  · subst e
    rw [h1] at hc
    cases hc
    exact hb
  · rw [h2 i hi e] at hc
    exact (hS i c hc).2
theorem finS_one {C : Ctx} {rs : List RV} {r : AV} {e : AX} {s : AS} {S : AStore} {a0 : Nat} {b : ABlk} (r0 : AV) (hS : Clean S) (ha : 1000 ≤ a0) (hb : b.high = true) (he : match e with | .normal => True | .ret => True | _ => False)
    (h1 : (resAll s rs).map tupV = some r0) (h2 : outV s.S r0 = some r) (h3 : s.S a0 = some b) (h4 : ∀ i, 1000 ≤ i → i ≠ a0 → s.S i = S i) : FinS C rs r (updE S a0 (some b)) e s :=
  finS_low he r0 h1 h2 (highs_is hS hb h3 h4) (lowS_is hS ha h3 h4) (clean_upd hS ha hb)
theorem finS_two {C : Ctx} {rs : List RV} {r : AV} {e : AX} {s : AS} {S : AStore} {a0 b0 : Nat} {b c : ABlk} (r0 : AV) (hS : Clean S) (ha : 1000 ≤ a0) (hb0 : 1000 ≤ b0) (hne : b0 ≠ a0) (hb : b.high = true) (hc : c.high = true) (he : match e with | .normal => True | .ret => True | _ => False)
    (h1 : (resAll s rs).map tupV = some r0) (h2 : outV s.S r0 = some r) (h3 : s.S a0 = some b) (h3' : s.S b0 = some c) (h4 : ∀ i, 1000 ≤ i → i ≠ a0 → i ≠ b0 → s.S i = S i) : FinS C rs r (updE (updE S a0 (some b)) b0 (some c)) e s :=
  finS_low he r0 h1 h2 (fun i x hi hx => by
    by_cases e1 : i = a0
    · subst e1; rw [h3] at hx; cases hx; exact hb
    · by_cases e2 : i = b0
      · subst e2; rw [h3'] at hx; cases hx; exact hc
      · rw [h4 i hi e1 e2] at hx; exact (hS i x hx).2) (by
    funext i
    show (if i < 1000 then none else s.S i) = _
    by_cases e2 : i = b0
    · subst e2
      rw [updE_same, if_neg (by omega), h3']
    · rw [updE_ne _ e2]
      by_cases e1 : i = a0
      · subst e1
        rw [updE_same, if_neg (by omega), h3]
      · rw [updE_ne _ e1]
        by_cases hi : i < 1000
        · rw [if_pos hi, clean_none hS hi]
        · rw [if_neg hi, h4 i (by omega) e1 e2]) (clean_upd (clean_upd hS ha hb) hb0 hc)
end Go.Proofs.YtehnjhkndbcmgaaGreatDoor

namespace Go.Proofs.YtehnjhkndbcmgaaGreatDoor
open Go Go.RowKit
set_option linter.unusedVariables false
theorem acallsS_hand {P : Program} {f : FuncId} {xs : List AV} {S : AStore} {r : AV} {S' : AStore} (hS' : Clean S → Clean S')
    (h : Clean S → ∀ (C : Ctx) (σ : Sto) (ι : AHnd) (vs : List Value) (w : World), C.n = xs.length → Refs C σ ι (AS.startS xs S) { tmps := vs.toArray, defers := [] } w → All2 (VRep σ S ι) vs xs → Calls P f vs.toArray w fun e w' => ∃ v σ' ι' env', e = .returned v ∧ Refs C σ' ι' ⟨env', S'⟩ { tmps := vs.toArray, defers := [] } w' ∧ VRep σ' S' ι' v r) : ACallsS P f xs S r S' := by
  intro hclean σ w vs ι hglob hfit hown hvs
  have hl := hvs.len
  let C : Ctx := ⟨xs.length, w.heap.size, fun g => ¬ notOf S ι g, σ, w, S, ι, hclean, hglob, []⟩
  have R : Refs C σ ι (AS.startS xs S) { tmps := vs.toArray, defers := [] } w := by
    refine ⟨by simp [C, hl], fun i hi => ?_, rfl, hfit, hown.1, hown.2, fun id b g h hg => .inr (fun hno => hno id b h hg), fun _ _ h => h, fun _ _ _ => rfl, ⟨rfl, rfl, rfl⟩, ⟨Nat.le_refl _, Nat.le_refl _⟩, fun _ _ _ => rfl, Upd.refl _ _⟩
    show VRep σ S ι _ ((xs[i]?).getD (.tup []))
    have hi : i < xs.length := hi
    have hi2 : i < vs.length := by omega
    obtain ⟨b, hb1, hb2⟩ := hvs.get' (List.getElem?_eq_getElem hi2)
    rw [Array.getD_eq_getD_getElem?, hb1]
    simpa [hi2] using hb2
  refine (h hclean C σ ι vs w rfl R hvs).mono fun e w' ⟨v, σ', ι', env', he, R', hv⟩ => ?_
  exact ⟨v, σ', ι', he, hS' hclean, R'.upd, ⟨R'.blk, R'.inj⟩, hv, R'.fit, R'.ext, fun p h1 h2 => R'.old p h1 (fun h => h h2), R'.os, R'.grown.2, fun g h1 h2 => R'.same g h1 (fun h => h h2), fun id b g h1 h2 => R'.base id b g h1 h2⟩
theorem Ghost.ownCell {C : Ctx} {s : AS} {id r : Nat} {e e' : TypeId} {cs : List AC} (j wd : Nat) (hS : s.S id = some (.box e cs)) (hj : cs[j]? = some (.full [])) (hr : s.S r = none) (hne : id ≠ r) :
    Ghost C s ((s.set r (.mrow e' wd [])).set id (.box e (cs.set j (.row r 0)))) := fun a w ⟨σ, ι, R⟩ => by
  have hb := R.blk _ _ hS
  cases hb with
  | @box _ _ g vs k1 k2 k3 k4 k5 =>
    obtain ⟨v, hv, hvr⟩ := k4.get hj
    cases hvr with
    | @full p len xs hs =>
      have hl : len = 0 := by
        obtain ⟨p', cap', e1, _⟩ := srep_slice hs
        cases e1
        rfl
      subst hl
      obtain ⟨hu, R'⟩ := R.fresh (w' := w) hr (.mrow e' wd []) ⟨p, 0, none⟩ (Ext.refl _ _) R.fit (Below.refl _ _) (by simp) (fun S' ι' hu => .mnil rfl rfl)
      have hS' : (s.set r (.mrow e' wd [])).S id = some (.box e cs) := by simp [AS.set, updE_ne _ hne, hS]
      have hι : updE ι r ⟨p, 0, none⟩ id = ι id := updE_ne _ hne _
      have hrr : (s.set r (.mrow e' wd [])).S r = some (.mrow e' wd []) := by simp [AS.set, updE_same]
      obtain ⟨hu2, R2⟩ := R'.turn (w' := w) hS' (.box e (cs.set j (.row r 0))) (updE ι r ⟨p, 0, none⟩ id) (σ' := σ) (fun _ _ h => h) (fun _ _ _ => rfl) R.fit (by simp [ABlk.len]) (fun _ => ⟨rfl, rfl⟩) ⟨rfl, rfl, rfl⟩ (Nat.le_refl _) (fun _ _ _ => rfl) (fun g h => .inl h)
        (fun hu2 => by
          rw [hι] at hu2 ⊢
          refine .box k1 k2 k3 (All2.of_get (by rw [List.length_set]; exact k4.len) fun q u c hu3 hc => ?_) k5
          by_cases e2 : q = j
          · subst e2
            rw [hv] at hu3
            cases hu3
            rw [List.getElem?_set_self (List.getElem?_eq_some_iff.1 hj).1] at hc
            cases hc
            refine .row (b := .mrow e' wd []) (by simp [AS.set, updE, Ne.symm hne]) (Nat.le_refl _) rfl fun _ => ?_
            simp [updE, Ne.symm hne]
          · rw [List.getElem?_set_ne (fun e => e2 e.symm)] at hc
            obtain ⟨u', hu', hr'⟩ := k4.get hc
            rw [hu3] at hu'
            cases hu'
            exact (hr'.mono (fun _ _ h => h) hu).mono (fun _ _ h => h) hu2)
      exact ⟨σ, _, R2⟩
end Go.Proofs.YtehnjhkndbcmgaaGreatDoor

namespace Go.Proofs.YtehnjhkndbcmgaaGreatDoor
open Go Go.RowKit
set_option maxRecDepth 100000
def ir_strings_Builder_WriteString : IR :=
  (.seq (.ops [.i 4 (.mov (.n 0)), .i 5 (.mov (.c (.one (.st (.lit .nilIface)))))]) (.seq (.ops [.i 6 (.mov (.t 0)), .i 7 (.callS 120 [.t 6])]) (.seq (.ops [.i 8 (.mov (.t 0)), .i 9 (.mov (.t 0)), .i 10 (.nilCheck (.t 9)), .i 11 (.fieldAddr 1 (.t 10)), .i 12 (.load false 1 (.t 11)), .i 13 (.mov (.t 1)), .i 14 (.appS 5 (.t 12) (.t 13)), .i 15 (.nilCheck (.t 8)), .i 16 (.fieldAddr 1 (.t 15)), .mk none none (.store 1 (.t 16) (.t 14)) .no]) (.seq (.ops [.i 17 (.mov (.t 1)), .i 18 (.len true (.t 17)), .i 4 (.mov (.t 18)), .i 5 (.mov (.c (.one (.st (.lit .nilIface)))))]) .ret))))
theorem tr_strings_Builder_WriteString : trCode Tryz.prog 19 [7] (Tryz.f101.body.getD .skip) = some ir_strings_Builder_WriteString := by kernel_rfl
theorem acS_strings_Builder_WriteString {xs : List AV} {S S' : AStore} {r : AV} (hn : xs.length ≤ 19) (h : Clean S → ∀ C : Ctx, C.n = 19 → IWP Tryz.prog C [7] ir_strings_Builder_WriteString (FinS C [.t 4, .t 5] r S') (AS.startS xs S)) : ACallsS Tryz.prog 101 xs S r S' :=
  acallsS_of Tryz.func101 rfl tr_strings_Builder_WriteString rfl hn h
def ir_strings_Builder_WriteByte : IR :=
  (.seq (.ops [.i 4 (.mov (.c (.one (.st (.lit .nilIface)))))]) (.seq (.ops [.i 5 (.mov (.t 0)), .i 6 (.callS 120 [.t 5])]) (.seq (.ops [.i 7 (.mov (.t 0)), .i 8 (.mov (.t 0)), .i 9 (.nilCheck (.t 8)), .i 10 (.fieldAddr 1 (.t 9)), .i 11 (.load false 1 (.t 10)), .i 12 (.mov (.t 1)), .i 13 (.buildFlat [.t 12]), .i 14 (.append true 5 1 1 (.t 11) (.t 13)), .i 15 (.nilCheck (.t 7)), .i 16 (.fieldAddr 1 (.t 15)), .mk none none (.store 1 (.t 16) (.t 14)) .no]) (.seq (.ops [.i 4 (.mov (.c (.one (.st (.lit .nilIface)))))]) .ret))))
theorem tr_strings_Builder_WriteByte : trCode Tryz.prog 17 [6, 14] (Tryz.f102.body.getD .skip) = some ir_strings_Builder_WriteByte := by kernel_rfl
theorem acS_strings_Builder_WriteByte {xs : List AV} {S S' : AStore} {r : AV} (hn : xs.length ≤ 17) (h : Clean S → ∀ C : Ctx, C.n = 17 → IWP Tryz.prog C [6, 14] ir_strings_Builder_WriteByte (FinS C [.t 4] r S') (AS.startS xs S)) : ACallsS Tryz.prog 102 xs S r S' :=
  acallsS_of Tryz.func102 rfl tr_strings_Builder_WriteByte rfl hn h
end Go.Proofs.YtehnjhkndbcmgaaGreatDoor

namespace Go.Proofs.YtehnjhkndbcmgaaGreatDoor
open Go Go.RowKit
set_option linter.unusedVariables false
set_option linter.unusedSimpArgs false
set_option maxHeartbeats 1000000
theorem sizeBuilderB : (Tryz.prog.info? 108).map (fun i => i.size) = some 2 := by kernel_rfl
set_option maxRecDepth 100000 in
theorem copyCheck_usedB (b : Nat) (w : World) (h0 : w.cell? ⟨b, 0, none⟩ = some (.pointer (some ⟨b, 0, none⟩))) :
    Calls Tryz.prog 120 #[.pointer (some ⟨b, 0, none⟩)] w fun e w' => e = .returned (.tuple #[]) ∧ w' = w := by
  obtain ⟨j, hj, _⟩ := Option.map_eq_some_iff.1 sizeBuilderB
  go_enter Tryz.func120, Tryz.ntmps120
  go_wp2
  rw [Lib.run_neq_ptr_same w _ Tryz.underlying106 hj]
  go_wp2
  go_end0
  exact ⟨rfl, rfl⟩
set_option maxRecDepth 100000 in
theorem copyCheck_freshB (b : Nat) (w : World) (h0 : w.cell? ⟨b, 0, none⟩ = some (.pointer none)) (hsh : w.shape? b = some (108, 2)) (hfz : w.frozen? ⟨b, 0, none⟩ = false) :
    Calls Tryz.prog 120 #[.pointer (some ⟨b, 0, none⟩)] w fun e w' => e = .returned (.tuple #[]) ∧ w' = w.setCell ⟨b, 0, none⟩ (.pointer (some ⟨b, 0, none⟩)) := by
  obtain ⟨j, hj, hjs⟩ := Option.map_eq_some_iff.1 sizeBuilderB
  go_enter Tryz.func120, Tryz.ntmps120
  go_wp2
  rw [Lib.run_to_unsafe w ⟨b, 0, none⟩ Tryz.underlying106 Tryz.underlying165 hj (by rw [hjs]; decide) hsh (Nat.zero_lt_succ 1)]
  simp only [Result.andThen]
  rw [Oper.upon_value]
  go_wp2
  rw [run_callFunc_extern Tryz.func129 (by kernel_rfl) (by kernel_rfl) (by kernel_rfl) (e := Extern.AbiNoEscape.same) (by kernel_rfl)]
  rw [Lib.run_noEscape]
  simp only [Result.andThen]
  rw [Oper.upon_value]
  go_wp2
  rw [Lib.run_from_unsafe w ⟨b, 0, none⟩ Tryz.underlying165 Tryz.underlying106 hj hsh (by kernel_rfl)]
  simp only [Result.andThen]
  rw [Oper.upon_value]
  go_wp2
  go_end0
  exact ⟨rfl, rfl⟩
def Frz (w w' : World) (g : Nat) : Prop := w'.heap.size = w.heap.size ∧ (∀ k, k ≠ g → w'.heap[k]? = w.heap[k]?) ∧ w'.os = w.os ∧ w'.tape = w.tape ∧ w'.output = w.output
theorem frz_freeze (w : World) (g n : Nat) : Frz w (w.drew.freeze ⟨g, 0, none⟩ n) g := by
  unfold World.freeze
  split
  · exact ⟨rfl, fun _ _ => rfl, rfl, rfl, rfl⟩
  · refine ⟨by simp, fun k hk => ?_, rfl, rfl, rfl⟩
    simp only [Array.getElem?_modify]
    rw [if_neg (fun e => hk e.symm)]
    rfl
set_option maxRecDepth 100000 in
theorem builderString_at (b g cap : Nat) (p : Value) (cur : Array Value) (l : List UInt8) (w : World) (h0 : l ≠ []) (hbk : w.heap[b]? = some (.cells #[p, .slice (some ⟨g, 0, none⟩) l.length cap] 108 (0, 0))) (hbg : w.heap[g]? = some (.cells cur 5 (0, 0)))
    (hcm : cap ≤ maxLen) (hnc : l.length ≤ cap) (hsz : l.length ≤ cur.size) (hcur : ∀ (j : Nat) (x : UInt8), l[j]? = some x → cur[j]? = some (Value.int .u8 (x.toNat : Int))) :
    Calls Tryz.prog 66 #[.pointer (some ⟨b, 0, none⟩)] w fun e w' => e = .returned (.string ⟨l.toArray⟩) ∧ Frz w w' g := by
  have hl0 : l.length ≠ 0 := by simpa using h0
  have c1 : w.drew.cell? ⟨b, 1, none⟩ = some (.slice (some ⟨g, 0, none⟩) l.length cap) := by
    have : w.drew.heap[b]? = some (.cells #[p, .slice (some ⟨g, 0, none⟩) l.length cap] 108 (0, 0)) := hbk
    rw [Lib.cell_of_heap this]; rfl
  have hSD : (Builtin.unsafeSliceData_ #[105] 144 #[.slice (some ⟨g, 0, none⟩) l.length cap]).run Tryz.prog w.drew = .ok (.pointer (some ⟨g, 0, none⟩)) w.drew :=
    Lib.run_unsafeSliceData_row _ _ _ _ _ _ (by omega)
  have hUS : (Builtin.unsafeString_ #[144, 3] 9 #[.pointer (some ⟨g, 0, none⟩), .int .i64 l.length]).run Tryz.prog w.drew = .ok (.string ⟨l.toArray⟩) (w.drew.freeze ⟨g, 0, none⟩ l.length) := by
    refine Lib.run_unsafeString_row w.drew 144 3 9 5 Tryz.underlying144 (by kernel_rfl) g cur.size (by have hg' : w.drew.heap[g]? = some (.cells cur 5 (0, 0)) := hbg; simp [World.shape?, hg']) l h0 (by omega) (by unfold maxLen at hcm; omega) ?_
    intro j x hx
    have hg' : w.drew.heap[g]? = some (.cells cur 5 (0, 0)) := hbg
    rw [addr_add, Nat.zero_add, cell_of_row w.drew g _ _ _ _ hg']
    exact hcur j x hx
  go_enter Tryz.func66, Tryz.ntmps66
  go_wp2
  have mixed : Tryz.prog.follows Departure.mixedOrders = true := by kernel_rfl
  go_region_o
  all_goals (go_wp2; go_ret; exact ⟨rfl, frz_freeze w g l.length⟩)
abbrev bT : TypeId := 108
abbrev u8T : TypeId := 5
structure Bld (S : AStore) (a0 r : Nat) (bs : ByteArray) : Prop where
  ha : 1000 ≤ a0
  hr : 1000 ≤ r
  ne : a0 ≠ r
  box : ∃ p, (p = .st (.lit (.pointer none)) ∨ p = .ptr a0 1 0 0) ∧ S a0 = some (.box bT [p, .row r bs.size])
  row : S r = some (.mrow u8T 1 (byteRow bs))
def bldS (S : AStore) (a0 r : Nat) (bs : ByteArray) : AStore := updE (updE S a0 (some (.box bT [.ptr a0 1 0 0, .row r bs.size]))) r (some (.mrow u8T 1 (byteRow bs)))
theorem Bld.next {S : AStore} {a0 r : Nat} {bs cs : ByteArray} (h : Bld S a0 r bs) : Bld (bldS S a0 r cs) a0 r cs :=
  ⟨h.ha, h.hr, h.ne, ⟨_, .inr rfl, by unfold bldS; rw [updE_ne _ h.ne, updE_same]⟩, by unfold bldS; rw [updE_same]⟩
theorem ptr_val {σ : Sto} {S : AStore} {ι : AHnd} {v : Value} {a0 : Nat} {e : TypeId} {cs : List AC} (h : VRep σ S ι v (.one (.ptr a0 1 0 0))) (hS : S a0 = some (.box e cs)) : ∃ g, (ι a0).g = some g ∧ v = .pointer (some ⟨g, 0, none⟩) := by
  have h := vrep_one h
  cases h with
  | @ptr _ _ _ _ _ b h1 h2 h3 h4 =>
    rw [hS] at h1
    cases h1
    obtain ⟨g, g1, g2⟩ := h4 rfl
    exact ⟨g, g1, by rw [g2]; rfl⟩
theorem aptr_val {σ : Sto} {S : AStore} {ι : AHnd} {v : Value} {a0 : Nat} {e : TypeId} {cs : List AC} (h : ARep σ S ι v (.ptr a0 1 0 0)) (hS : S a0 = some (.box e cs)) : ∃ g, (ι a0).g = some g ∧ v = .pointer (some ⟨g, 0, none⟩) := ptr_val (.one h) hS
theorem list_two {α : Type} {l : List α} (h : l.length = 2) : ∃ a b, l = [a, b] := by
  match l, h with
  | [a, b], _ => exact ⟨a, b, rfl⟩
theorem copyCheck_S {a0 r : Nat} {bs : ByteArray} {S : AStore} (h : Bld S a0 r bs) : ACallsS Tryz.prog 120 [.one (.ptr a0 1 0 0)] S (.tup []) (updE S a0 (some (.box bT [.ptr a0 1 0 0, .row r bs.size]))) := by
  obtain ⟨p, hp, hSa⟩ := h.box
  refine acallsS_hand (fun hc => clean_upd hc h.ha (by simp only [ABlk.high, AC.highs, AC.high, decide_eq_true h.ha, decide_eq_true h.hr, Bool.and_self])) fun hclean C σ ι vs w hn R hvs => ?_
  obtain ⟨v, rfl⟩ : ∃ v, vs = [v] := by
    have := hvs.len
    match vs, this with
    | [v], _ => exact ⟨v, rfl⟩
  have hv : VRep σ S ι v (.one (.ptr a0 1 0 0)) := by cases hvs with | cons h _ => exact h
  obtain ⟨g, hg, rfl⟩ := ptr_val hv hSa
  have hb := R.blk a0 _ hSa
  cases hb with
  | @box _ _ g' vs k1 k2 k3 k4 k5 =>
  rw [hg] at k1
  cases k1
  obtain ⟨v0, v1, hvs2⟩ := list_two (show vs.toList.length = 2 by rw [k4.len]; rfl)
  obtain rfl : vs = #[v0, v1] := Array.ext' hvs2
  have r0 : ARep σ S ι v0 p := by cases k4 with | cons h _ => exact h
  have r1 : ARep σ S ι v1 (.row r bs.size) := by cases k4 with | cons _ h => cases h with | cons h _ => exact h
  have c0 : w.cell? ⟨g, 0, none⟩ = some v0 := by rw [Lib.cell_of_heap k3]; rfl
  have key : ∀ w', w' = w.setRow g #[.pointer (some ⟨g, 0, none⟩), v1] → ∃ σ' ι' env', Refs C σ' ι' ⟨env', updE S a0 (some (.box bT [.ptr a0 1 0 0, .row r bs.size]))⟩ { tmps := #[.pointer (some ⟨g, 0, none⟩)], defers := [] } w' ∧ VRep σ' (updE S a0 (some (.box bT [.ptr a0 1 0 0, .row r bs.size]))) ι' (.tuple #[]) (.tup []) := fun w' hw' => by
    subst hw'
    obtain ⟨hu, R'⟩ := R.turn (w' := w.setRow g #[.pointer (some ⟨g, 0, none⟩), v1]) hSa (.box bT [.ptr a0 1 0 0, .row r bs.size]) (ι a0) (σ' := σ) (fun _ _ h => h) (fun _ _ _ => rfl) (R.fit.row k5 fun k hk => setRow_other _ _ _ _ hk) (by simp [ABlk.len]) (fun _ => ⟨rfl, rfl⟩) (setRow_frame _ _) (by simp)
      (fun k hk hne => setRow_other _ _ _ _ (fun e => hne (by rw [e]; exact hg))) (fun g h => .inl h) (fun hu => .box hg k2 (setRow_heap w _ _ _ _ _ k3) (.cons (.ptr (b := .box bT [.ptr a0 1 0 0, .row r bs.size]) (by simp [AS.set, updE_same]) (by simp [ABlk.len]) rfl fun _ => ⟨g, by rw [updE_same]; exact hg, by simp [ABlk.wid]⟩) (.cons (r1.mono (fun _ _ h => h) hu) .nil)) k5)
    exact ⟨σ, _, _, R', .tup (fun _ => undef) rfl (by simp) (by simp)⟩
  rcases hp with rfl | rfl
  · have e0 : v0 = .pointer none := by cases r0 with | st h => cases h with | lit _ => rfl
    subst e0
    refine (copyCheck_freshB g w c0 (by simp [World.shape?, k3]) (Lib.frozen_of_heap k3 0)).mono ?_
    rintro e w' ⟨rfl, rfl⟩
    obtain ⟨σ', ι', env', R', hv'⟩ := key _ (setCell_eq_setRow w g 0 _ _ _ _ k3)
    exact ⟨_, σ', ι', env', rfl, R', hv'⟩
  · obtain ⟨g2, hg2, e0⟩ := aptr_val r0 hSa
    rw [hg] at hg2
    cases hg2
    subst e0
    refine (copyCheck_usedB g w c0).mono ?_
    rintro e w' ⟨rfl, rfl⟩
    obtain ⟨σ', ι', env', R', hv'⟩ := key _ (setRow_self w' g _ _ _ k3).symm
    exact ⟨_, σ', ι', env', rfl, R', hv'⟩
theorem byteRow_app (a b : ByteArray) : byteRow (a ++ b) = byteRow a ++ byteRow b := by unfold byteRow; simp
theorem bld_up {a0 r : Nat} {bs : ByteArray} {S : AStore} (h : Bld S a0 r bs) : Bld (upS S) (up1 a0) (up1 r) bs := by
  obtain ⟨p, hp, hSa⟩ := h.box
  refine ⟨up1_le _, up1_le _, fun e => h.ne (Nat.add_right_cancel e), ?_, by rw [upS_some h.row]; rfl⟩
  rcases hp with rfl | rfl
  · exact ⟨_, .inl rfl, by rw [upS_some hSa]; rfl⟩
  · exact ⟨_, .inr rfl, by rw [upS_some hSa]; rfl⟩
theorem bld_high {a0 r n : Nat} (ha : 1000 ≤ a0) (hr : 1000 ≤ r) : (ABlk.box bT [.ptr a0 1 0 0, .row r n]).high = true := by simp only [ABlk.high, AC.highs, AC.high, decide_eq_true ha, decide_eq_true hr, Bool.and_self]
theorem writeString_S {a0 r : Nat} {bs : ByteArray} {S : AStore} (h : Bld S a0 r bs) (s : ByteArray) (hz : bs.size + s.size ≤ 140737488355328) : ACallsS Tryz.prog 101 [.one (.ptr a0 1 0 0), aStr s] S (.tup [aInt s.size, .one (.st (.lit .nilIface))]) (bldS S a0 r (bs ++ s)) := by
  obtain ⟨p, hp, hSa⟩ := h.box
  have hSr := h.row
  have ha := h.ha
  have hr := h.hr
  have hne := h.ne
  have hne2 : ¬ r = a0 := fun e => hne e.symm
  have hbl := byteRow_len bs
  refine acS_strings_Builder_WriteString (Nat.le_of_ble_eq_true rfl) fun hS C hC => ?_
  unfold ir_strings_Builder_WriteString
  repeat' (first | (with_reducible first | refine W ?_ | refine Wk (by decide) ?_) | ((with_reducible first | refine Wo (fun K hK => ?_) | refine Wp ?_ | refine Wq ?_ | refine Wr ?_); (try simp only [go_sem, fN, ↓gI, ↓pI, seval, eT, iR, hSa, dT, dF, nL]); (repeat with_reducible refine And.intro (by first | omega | exact lens | (simp [maxLen_eq] <;> omega)) ?_); (try (refine hK _ ?_; clear hK K)); (try with_reducible refine iC ?_)))
  refine ⟨_, _, copyCheck_S (bld_up h), ?_⟩
  repeat' (first | (with_reducible first | refine W ?_ | refine Wk (by decide) ?_) | ((with_reducible first | refine Wo (fun K hK => ?_) | refine Wp ?_ | refine Wq ?_ | refine Wr ?_); (try simp only [go_sem, fN, ↓gI, ↓pI, seval, eT, iR, hSa, hSr, hne, hne2, hbl, dT, dF, nL]); (repeat with_reducible refine And.intro (by first | omega | exact lens | (simp [maxLen_eq] <;> omega)) ?_); (try (refine hK _ ?_; clear hK K)); (try with_reducible refine iC ?_)))
  refine finS_two (.tup [aInt s.size, .one (.st (.lit .nilIface))]) hS ha hr hne2 (bld_high ha hr) rfl trivial ?_ ?_ ?_ ?_ fun i hi i1 i2 => ?_
  · simp only [go_sem, fN, ↓gI, ↓pI, seval, eT, iR, resAll, resOne, tupV]
  · simp only [go_sem, fN, ↓gI, ↓pI, seval, eT, iR]
    try rfl
  · simp only [go_sem, fN, ↓gI, ↓pI, seval, eT, iR, hne, hne2]
    try (rw [ByteArray.size_append])
  · simp only [go_sem, fN, ↓gI, ↓pI, seval, eT, iR, hne, hne2, byteRow_app]
  · simp only [go_sem, fN, ↓gI, ↓pI, seval, eT, iR, i1, i2]
theorem byteRow_one (c : UInt8) : byteRow ⟨#[c]⟩ = [[.int .u8 (c.toNat : Int)]] := rfl
theorem writeByte_S {a0 r : Nat} {bs : ByteArray} {S : AStore} (h : Bld S a0 r bs) (c : UInt8) (hz : bs.size + 1 ≤ 140737488355328) : ACallsS Tryz.prog 102 [.one (.ptr a0 1 0 0), .one (.st (.int .u8 (c.toNat : Int)))] S (.one (.st (.lit .nilIface))) (bldS S a0 r (bs ++ ⟨#[c]⟩)) := by
  obtain ⟨p, hp, hSa⟩ := h.box
  have hSr := h.row
  have ha := h.ha
  have hr := h.hr
  have hne := h.ne
  have hne2 : ¬ r = a0 := fun e => hne e.symm
  have hbl := byteRow_len bs
  have hsz : (bs ++ ⟨#[c]⟩).size = bs.size + 1 := by rw [ByteArray.size_append]; rfl
  refine acS_strings_Builder_WriteByte (Nat.le_of_ble_eq_true rfl) fun hS C hC => ?_
  unfold ir_strings_Builder_WriteByte
  repeat' (first | (with_reducible first | refine W ?_ | refine Wk (by decide) ?_) | ((with_reducible first | refine Wo (fun K hK => ?_) | refine Wp ?_ | refine Wq ?_ | refine Wr ?_); (try simp only [go_sem, fN, ↓gI, ↓pI, seval, eT, iR, hSa, dT, dF, nL]); (repeat with_reducible refine And.intro (by first | omega | exact lens | (simp [maxLen_eq] <;> omega)) ?_); (try (refine hK _ ?_; clear hK K)); (try with_reducible refine iC ?_)))
  refine ⟨_, _, copyCheck_S (bld_up h), ?_⟩
  have h63 : bs.size + 1 ≤ maxLen := by rw [maxLen_eq]; omega
  repeat' (first | (with_reducible first | refine W ?_ | refine Wk (by decide) ?_) | ((with_reducible first | refine Wo (fun K hK => ?_) | refine Wp ?_ | refine Wq ?_ | refine Wr ?_); (try simp only [go_sem, fN, ↓gI, ↓pI, seval, eT, iR, hSa, hSr, hne, hne2, hbl, h63, dT, dF, nL]); (repeat with_reducible refine And.intro (by first | omega | exact lens | (simp [maxLen_eq] <;> omega)) ?_); (try (refine hK _ ?_; clear hK K)); (try with_reducible refine iC ?_)))
  refine finS_two (.one (.st (.lit .nilIface))) hS ha hr hne2 (bld_high ha hr) rfl trivial ?_ ?_ ?_ ?_ fun i hi i1 i2 => ?_
  · simp only [go_sem, fN, ↓gI, ↓pI, seval, eT, iR, resAll, resOne, tupV]
  · simp only [go_sem, fN, ↓gI, ↓pI, seval, eT, iR]
    try rfl
  · simp only [go_sem, fN, ↓gI, ↓pI, seval, eT, iR, hne, hne2, hbl, hsz]
  · simp only [go_sem, fN, ↓gI, ↓pI, seval, eT, iR, hne, hne2, byteRow_app, byteRow_one]
  · simp only [go_sem, fN, ↓gI, ↓pI, seval, eT, iR, i1, i2]
theorem builderString_S {a0 r : Nat} {bs : ByteArray} {S : AStore} (h : Bld S a0 r bs) (h0 : 0 < bs.size) (hmx : bs.size ≤ 140737488355328) : ACallsS Tryz.prog 66 [.one (.ptr a0 1 0 0)] S (aStr bs) (updE S r (some (.dead bs.size 1))) := by
  obtain ⟨p, hp, hSa⟩ := h.box
  refine acallsS_hand (fun hc => clean_upd hc h.hr rfl) fun hclean C σ ι vs w hn R hvs => ?_
  obtain ⟨v, rfl⟩ : ∃ v, vs = [v] := by
    have := hvs.len
    match vs, this with
    | [v], _ => exact ⟨v, rfl⟩
  have hv : VRep σ S ι v (.one (.ptr a0 1 0 0)) := by cases hvs with | cons h _ => exact h
  obtain ⟨g, hg, rfl⟩ := ptr_val hv hSa
  have hb := R.blk a0 _ hSa
  have hbr := R.blk r _ h.row
  have hlen : (byteRow bs).length = bs.size := byteRow_len bs
  cases hb with
  | @box _ _ g' vs k1 k2 k3 k4 k5 =>
  rw [hg] at k1
  cases k1
  obtain ⟨v0, v1, hvs2⟩ := list_two (show vs.toList.length = 2 by rw [k4.len]; rfl)
  obtain rfl : vs = #[v0, v1] := Array.ext' hvs2
  have r1 : ARep σ S ι v1 (.row r bs.size) := by cases k4 with | cons _ h => cases h with | cons h _ => exact h
  generalize hrow : byteRow bs = row at hbr hlen
  cases hbr with
  | mnil m1 m2 => simp at hlen; omega
  | @mrow _ _ _ gr cur m1 m2 m3 m4 m5 m6 m7 m8 m9 =>
  subst hrow
  have e1 : v1 = .slice (some ⟨gr, 0, none⟩) bs.size (ι r).cap := by
    cases r1 with
    | row q1 q2 q3 q4 =>
      rw [h.row] at q1
      cases q1
      rw [q4 hlen.symm, m2]
  subst e1
  have hl : bs.data.toList.length = bs.size := by rw [Array.length_toList]; rfl
  refine (builderString_at g gr (ι r).cap v0 cur bs.data.toList w (fun e => by rw [e] at hl; simp at hl; omega) (by rw [hl]; exact k3) m3 m5 (by omega) (by rw [m6, hl]; omega) fun j x hx => ?_).mono ?_
  · have hx' : (byteRow bs)[j]? = some [SV.int .u8 (x.toNat : Int)] := by
      unfold byteRow
      rw [List.getElem?_map, hx]
      rfl
    obtain ⟨u, u1, u2⟩ := m8 j _ 0 _ hx' rfl
    rw [Nat.mul_one, Nat.add_zero] at u1
    rw [u1]
    cases u2
    rfl
  · rintro e w' ⟨rfl, f1, f2, f3, f4, f5⟩
    obtain ⟨hu, R'⟩ := R.turn (w' := w') h.row (.dead bs.size 1) (ι r) (σ' := σ) (fun _ _ h => h) (fun _ _ _ => rfl) (R.fit.row m9 f2) (by simp [ABlk.len, hlen]) (fun _ => ⟨rfl, rfl⟩) ⟨f3, f4, f5⟩ (by omega)
      (fun k hk hne => f2 k (fun e => hne (by rw [e]; exact m1))) (fun g h => .inl h) (fun hu => .dead fun g hg => by
        rw [m1] at hg
        cases hg
        rw [f1]
        exact (Array.getElem?_eq_some_iff.1 m3).1)
    refine ⟨_, σ, _, _, rfl, R', .one (.st (.str ?_))⟩
    show bs.size ≤ maxLen
    rw [maxLen_eq]
    omega
end Go.Proofs.YtehnjhkndbcmgaaGreatDoor
