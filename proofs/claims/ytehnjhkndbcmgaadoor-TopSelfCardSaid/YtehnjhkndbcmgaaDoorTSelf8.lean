/-
  Part 8 of the texts: Data; AbsT; AbsU; BEnds; BHand; IrBld; BBld; IrInfer; PTermD; PTerm; PSubst; PSort; PThen; PCompose; IrTerm. Conditions: none.
-/
import Derived.Test.YtehnjhkndbcmgaaDoorTSelf7
import Derived.Lib.FrozenHead2
import Derived.Lib.OthersKept
import Derived.Shelf.Strings.BuilderK
namespace Go.Proofs.YtehnjhkndbcmgaaDoor
open Go Go.RowKit
set_option linter.unusedVariables false
open Cod (wid dat)
inductive Tm where
  | mk (name : ByteArray) (args : List Tm)
def Tm.name : Tm → ByteArray | .mk n _ => n
def Tm.args : Tm → List Tm | .mk _ xs => xs
theorem Tm.eta (t : Tm) : Tm.mk t.name t.args = t := by cases t; rfl
mutual
def Tm.dat : Tm → Dat
  | .mk n xs => .agg [.str n, .row 2 (Tm.dats xs)]
def Tm.dats : List Tm → List Dat
  | [] => []
  | t :: ts => t.dat :: Tm.dats ts
end
theorem Tm.dats_eq : ∀ xs : List Tm, Tm.dats xs = xs.map Tm.dat
  | [] => rfl
  | t :: ts => by rw [Tm.dats, Tm.dats_eq ts]; rfl
theorem Tm.dat_is {σ : Sto} {n : ByteArray} {xs : List Tm} {cs : List Value} (h : (Tm.dat (.mk n xs)).Is σ cs) :
    ∃ p len cap, cs = [.string n, .slice p len cap] ∧ n.size ≤ maxLen ∧ len = xs.length ∧ len ≤ cap ∧ cap ≤ maxLen ∧ (p = none → cap = 0) ∧ ∃ b o, (len ≠ 0 → p = some ⟨b, o, none⟩) ∧ Dat.RowIs σ 2 (xs.map Tm.dat) b o := by
  rw [Tm.dat, Tm.dats_eq] at h
  obtain ⟨x, y, rfl, ⟨rfl, hn⟩, x', y', rfl, ⟨p, len, cap, rfl, hl, r⟩, rfl⟩ := h
  exact ⟨p, len, cap, rfl, hn, by simpa using hl, r⟩
instance : Cod Tm := ⟨2, Tm.dat, fun σ t cs h => by
  cases t
  obtain ⟨p, len, cap, rfl, _⟩ := Tm.dat_is h
  rfl⟩
def TmV (σ : Sto) (v : Value) (t : Tm) : Prop := ∃ p len cap, v = .agg #[.string t.name, .slice p len cap] ∧ t.name.size ≤ maxLen ∧ Slc σ p len cap t.args
theorem TmV.ext {σ σ' : Sto} {N : Nat} {v : Value} {t : Tm} (h : TmV σ v t) (he : Ext N σ σ') : TmV σ' v t := by
  obtain ⟨p, len, cap, h1, h2, h3⟩ := h
  exact ⟨p, len, cap, h1, h2, h3.ext he⟩
theorem Slc.str {σ : Sto} {p : Option Addr} {len cap : Nat} {xs : List ByteArray} (h : Slc σ p len cap xs) (k : Nat) (hk : k < len) :
    ∃ b o a, p = some ⟨b, o, none⟩ ∧ Hid (xs[k]? = some a) ∧ σ ⟨b, o + k, none⟩ = some (.string a) ∧ a.size ≤ maxLen := by
  have hl := h.length
  obtain ⟨b, o, hp, cs, h1, h2, h3⟩ := h.get k (by omega)
  obtain ⟨rfl, h4⟩ := cells_str.1 h3
  have := h2 0 _ rfl
  exact ⟨b, o, xs[k], hp, Lib.hid (List.getElem?_eq_getElem (by omega)), by simpa [Cod.wid] using this, h4⟩
theorem wf_bounds {n : Int} (h : (Lit.int .i64 n).wf = true) : -9223372036854775808 ≤ n ∧ n ≤ 9223372036854775807 := by
  simpa [Lit.wf, IntKind.min, IntKind.max, IntKind.signed, IntKind.bits] using h
theorem Slc.int {σ : Sto} {p : Option Addr} {len cap : Nat} {xs : List Int} (h : Slc σ p len cap xs) (k : Nat) (hk : k < len) :
    ∃ b o a, p = some ⟨b, o, none⟩ ∧ Hid (xs[k]? = some a) ∧ σ ⟨b, o + k, none⟩ = some (.int .i64 a) ∧ -9223372036854775808 ≤ a ∧ a ≤ 9223372036854775807 := by
  have hl := h.length
  obtain ⟨b, o, hp, cs, h1, h2, h3⟩ := h.get k (by omega)
  obtain ⟨rfl, h4⟩ := cells_int.1 h3
  have := h2 0 _ rfl
  exact ⟨b, o, xs[k], hp, Lib.hid (List.getElem?_eq_getElem (by omega)), by simpa [Cod.wid] using this, wf_bounds h4⟩
theorem take_snoc {α : Type} {xs : List α} {k : Nat} {a : α} (h : xs[k]? = some a) : xs.take (k + 1) = xs.take k ++ [a] := by
  rw [List.take_add_one, h]; rfl
theorem lt_of_get {α : Type} {xs : List α} {k : Nat} {a : α} (h : xs[k]? = some a) : k < xs.length := by
  rcases Nat.lt_or_ge k xs.length with h' | h'
  · exact h'
  · rw [List.getElem?_eq_none h'] at h; cases h
theorem mem_of_get {α : Type} {xs : List α} {k : Nat} {a : α} (h : xs[k]? = some a) : a ∈ xs := List.mem_of_getElem? h
theorem Tm.lt_of_mem {a : Tm} {n : ByteArray} {xs : List Tm} (h : a ∈ xs) : SizeOf.sizeOf a < SizeOf.sizeOf (Tm.mk n xs) := by
  have := List.sizeOf_lt_of_mem h
  simp only [Tm.mk.sizeOf_spec]
  omega
end Go.Proofs.YtehnjhkndbcmgaaDoor

namespace Go.Proofs.YtehnjhkndbcmgaaDoor
open Go Go.RowKit
set_option linter.unusedVariables false
theorem guard_ite (c P Q : Prop) [Decidable c] : ((c → P) ∧ (¬ c → Q)) = if c then P else Q := by
  by_cases h : c <;> simp [h]
theorem ite_conj {c A B : Prop} [Decidable c] (h : (c → A) ∧ (¬ c → B)) : if c then A else B := by
  by_cases hc : c
  · rw [if_pos hc]; exact h.1 hc
  · rw [if_neg hc]; exact h.2 hc
theorem pick_ite (b : Bool) (P Q : Prop) : ((b = true → P) ∧ (b = false → Q)) = if b = true then P else Q := by
  cases b <;> simp
attribute [congr] CallK.congr CallSK.congr
mutual
def encT : Tm → List SV
  | .mk n xs => [.str n, .list (encTs xs)]
def encTs : List Tm → List (List SV)
  | [] => []
  | t :: ts => encT t :: encTs ts
end
theorem encTs_eq : ∀ xs : List Tm, encTs xs = xs.map encT
  | [] => rfl
  | t :: ts => by rw [encTs, encTs_eq ts]; rfl
theorem encT_eq (t : Tm) : encT t = [.str t.name, .list (t.args.map encT)] := by
  cases t
  rw [encT, encTs_eq]
  rfl
theorem len_encT (t : Tm) : (encT t).length = 2 := by rw [encT_eq]; rfl
class Lens {α : Type} (f : α → List SV) (n : outParam Nat) : Prop where
  ok : ∀ a, (f a).length = n
theorem lens {α : Type} {f : α → List SV} {n : Nat} [h : Lens f n] {ts : List α} : ∀ x ∈ ts.map f, x.length = n := fun x hx => by
  obtain ⟨a, _, rfl⟩ := List.mem_map.1 hx
  exact h.ok a
instance : Lens encT 2 := ⟨fun t => by rw [encT_eq]; rfl⟩
theorem lens_encT {ts : List Tm} : ∀ x ∈ ts.map encT, x.length = 2 := by
  intro x hx
  obtain ⟨a, _, rfl⟩ := List.mem_map.1 hx
  exact len_encT a
theorem Tm.args_mk (n : ByteArray) (xs : List Tm) : (Tm.mk n xs).args = xs := rfl
theorem Tm.name_mk (n : ByteArray) (xs : List Tm) : (Tm.mk n xs).name = n := rfl
abbrev aInt (n : Int) : AV := .one (.st (.int .i64 n))
abbrev aBool (b : Bool) : AV := .one (.st (.bool b))
abbrev aStr (s : ByteArray) : AV := .one (.st (.str s))
abbrev aTm (t : Tm) : AV := .agg [.st (.str t.name), .st (.list (t.args.map encT))]
abbrev encI (n : Int) : List SV := [.int .i64 n]
abbrev aInts (l : List Int) : AV := .one (.st (.list (l.map encI)))
abbrev aTms (l : List Tm) : AV := .one (.st (.list (l.map encT)))
theorem get_lt {α : Type} {xs : List α} {k : Nat} (h : k < xs.length) : ∃ a, xs[k]? = some a := ⟨xs[k], List.getElem?_eq_getElem h⟩
theorem inR_i64 (n : Int) : inR .i64 n ↔ -9223372036854775808 ≤ n ∧ n ≤ 9223372036854775807 := by
  simp [inR, IntKind.min, IntKind.max, IntKind.signed, IntKind.bits]
theorem known_ints {l : List Int} (h : (SV.list (l.map encI)).known) : l.length ≤ maxLen ∧ ∀ n ∈ l, inR .i64 n := by
  obtain ⟨h1, h2⟩ := h
  refine ⟨by simpa using h1, fun n hn => ?_⟩
  have := knownL_iff.1 (knownLL_iff.1 h2 (encI n) (List.mem_map.2 ⟨n, hn, rfl⟩)) (.int .i64 n) (by simp)
  exact this
theorem maxLen_eq : maxLen = 9223372036854775807 := by simp [maxLen]
theorem known_tm {S : AStore} {t : Tm} (h : (aTm t).known S) : t.name.size ≤ 9223372036854775807 ∧ t.args.length ≤ 9223372036854775807 := by
  have h1 : t.name.size ≤ maxLen := by
    have := h (.st (.str t.name)) (by simp)
    simpa [AC.known, SV.known] using this
  have h2 : t.args.length ≤ maxLen := by
    have := h (.st (.list (t.args.map encT))) (by simp)
    simp only [AC.known, SV.known, List.length_map] at this
    exact this.1
  rw [maxLen_eq] at h1 h2
  exact ⟨h1, h2⟩
end Go.Proofs.YtehnjhkndbcmgaaDoor

namespace Go.Proofs.YtehnjhkndbcmgaaDoor
open Go Go.RowKit
set_option linter.unusedVariables false
def Kd.isCall : Kd → Bool
  | .call _ _ => true
  | .callS _ _ => true
  | .callV _ _ => true
  | .callN _ _ => true
  | .callR _ _ => true
  | .callW _ _ => true
  | .buildFlat _ => false
  | .cutP _ _ _ => false
  | .indexP _ _ _ => false
  | .appP _ _ _ _ _ => false
  | .restP _ _ _ => false
  | .appS _ _ _ => false
  | .loadL _ _ _ => false
  | .indexL _ _ _ => false
  | .buildL _ _ => false
  | .fieldL _ _ => false
  | .clearP _ _ _ _ => false
  | .mov _ => false
  | .pick _ _ _ => false
  | .alloc _ _ => false
  | .box _ _ => false
  | .build _ _ => false
  | .buildSlice _ _ _ _ => false
  | .load _ _ _ => false
  | .store _ _ _ => false
  | .fieldAddr _ _ => false
  | .field _ _ _ _ => false
  | .indexAddr _ _ _ => false
  | .indexArr _ _ _ _ => false
  | .indexStr _ _ => false
  | .bin _ _ _ => false
  | .eqB _ _ _ => false
  | .eqN _ _ => false
  | .eqE _ _ => false
  | .never => false
  | .pan _ => false
  | .iface _ _ => false
  | .strOf _ => false
  | .un _ _ => false
  | .sliceS _ _ _ => false
  | .sliceL _ _ _ _ => false
  | .extract _ _ => false
  | .len _ _ => false
  | .append _ _ _ _ _ _ => false
  | .conv _ _ => false
  | .nilCheck _ => false
  | .mm _ _ _ => false
  | .makeSlice _ _ _ _ _ _ => false
  | .makeFunc _ _ => false
  | .makeMap _ => false
  | .lookup _ _ _ _ _ => false
  | .mapSet _ _ _ _ => false
  | .mapEntry _ _ _ _ => false
  | .entrySet _ _ _ => false
  | .rangeM _ => false
  | .next _ => false
  | .entry _ => false
  | .lenM _ => false
  | .buildArr _ => false
  | .makeMemo => false
  | .memoGet _ _ _ _ => false
  | .memoSet _ _ _ => false
inductive CallG (P : Program) (f : FuncId) (vs : List AV) (d : Option Nat) (l : List Ins) (s : AS) (K : AS → Prop) : Prop
  | mk (r : AV) (h1 : ACalls P f vs r) (h2 : Run P l (s.put d r) K)
inductive CallSG (P : Program) (f : FuncId) (vs : List AV) (S : AStore) (ks : List Nat) (d : Option Nat) (l : List Ins) (env : Nat → AV) (K : AS → Prop) : Prop
  | mk (r : AV) (S' : AStore) (h1 : ACallsS P f vs (upS S) r S') (h2 : (∀ k ∈ ks, dnS S' k = S k) ∧ Run P l ((⟨env, dnS S'⟩ : AS).put d (r.ren dn1)) K)
inductive CallNG (P : Program) (f : FuncId) (vs : List AV) (ks : List Nat) (d : Option Nat) (l : List Ins) (s : AS) (K : AS → Prop) : Prop
  | mk (mu : Bool) (e : TypeId) (w : Nat) (ys : List (List SV)) (h1 : ACallsN P f vs e w ys mu) (h2 : s.S (d.getD 0) = none ∧ (∀ k ∈ ks, (s.set (d.getD 0) (rowB mu e w ys)).S k = s.S k) ∧ Run P l ((s.set (d.getD 0) (rowB mu e w ys)).put d (.one (.row (d.getD 0) ys.length))) K)
inductive CallRG (P : Program) (f : FuncId) (vs : List AV) (d : Option Nat) (l : List Ins) (s : AS) (K : AS → Prop) : Prop
  | mk (r : AV) (rows : List (Nat × ABlk)) (h0 : ∀ q ∈ rows, s.S q.1 = some q.2) (h1 : ∀ T : AStore, (∀ q ∈ rows, T q.1 = some q.2) → ACallsS P f vs (upS T) r (upS T)) (h2 : Run P l (s.put d (r.ren dn1)) K)
inductive CallWG (P : Program) (f : FuncId) (vs : List AV) (ks : List Nat) (d : Option Nat) (l : List Ins) (s : AS) (K : AS → Prop) : Prop
  | mk (r : AV) (rows : List (Nat × ABlk × ABlk)) (h0 : holdS s.S rows) (h1 : ∀ T : AStore, holdS T rows → ACallsS P f vs (upS T) r (upS (turnS T rows))) (h2 : (∀ k ∈ ks, turnS s.S rows k = s.S k) ∧ Run P l ((⟨s.env, turnS s.S rows⟩ : AS).put d (r.ren dn1)) K)
theorem rows_one {S : AStore} {i : Nat} {b : ABlk} (h : S i = some b) : ∀ q ∈ [(i, b)], S q.1 = some q.2 := fun q hq => by rw [List.mem_singleton.1 hq]; exact h
def Kd.goC (P : Program) (d : Option Nat) (s : AS) (t : Tag) (l : List Ins) (K : AS → Prop) : Kd → Prop
  | .call f xs => match t with
    | .no => match outVs s.S (s.evs xs) with
      | some vs => CallG P f vs d l s K
      | none => False
    | _ => False
  | .callR f xs => match t with
    | .no => CallRG P f (AV.rens up1 (s.evs xs)) d l s K
    | _ => False
  | .callW f xs => match t with
    | .no => CallWG P f (AV.rens up1 (s.evs xs)) [] d l s K
    | .keeps ks => CallWG P f (AV.rens up1 (s.evs xs)) ks d l s K
    | .onb _ => False
  | .callN f xs => match t with
    | .no => match outVs s.S (s.evs xs) with
      | some vs => CallNG P f vs [] d l s K
      | none => False
    | .keeps ks => match outVs s.S (s.evs xs) with
      | some vs => CallNG P f vs ks d l s K
      | none => False
    | .onb _ => False
  | .callS f xs => match t with
    | .no => CallSG P f (AV.rens up1 (s.evs xs)) s.S [] d l s.env K
    | .keeps ks => CallSG P f (AV.rens up1 (s.evs xs)) s.S ks d l s.env K
    | .onb _ => False
  | .callV f xs => match s.ev f with
    | .one (.fn g caps) => plainF P g = true ∧ match t with
      | .no => CallSG P g (AV.rens up1 (s.evs xs ++ caps.map .one)) s.S [] d l s.env K
      | .keeps ks => CallSG P g (AV.rens up1 (s.evs xs ++ caps.map .one)) s.S ks d l s.env K
      | .onb _ => False
    | _ => False
  | _ => False
def Run2 (P : Program) : List Ins → AS → (AS → Prop) → Prop
  | [], s, K => K s
  | i :: l, s, K => match i.kd.isCall with
    | false => match i.guard with
      | none => i.kd.goT P (i.dst.getD 0) s i.tag fun v s' => Run2 P l (s'.put i.dst v) K
      | some (g, want) => match s.env g with
        | .one (.st (.bool b)) => (b = want → i.kd.goT P (i.dst.getD 0) s i.tag fun v s' => Run2 P l (s'.put i.dst v) K) ∧ (¬ b = want → Run2 P l (s.put i.dst (.tup [])) K)
        | .tup [] => Run2 P l (s.put i.dst (.tup [])) K
        | _ => False
    | true => match i.guard with
      | none => i.kd.goC P i.dst s i.tag l K
      | some (g, want) => match s.env g with
        | .one (.st (.bool b)) => (b = want → i.kd.goC P i.dst s i.tag l K) ∧ (¬ b = want → Run2 P l (s.put i.dst (.tup [])) K)
        | .tup [] => Run2 P l (s.put i.dst (.tup [])) K
        | _ => False
section
variable {P : Program}
theorem goC_run {kd : Kd} {d : Option Nat} {s : AS} {t : Tag} {l : List Ins} {K : AS → Prop} (h : kd.goC P d s t l K) : kd.goT P (d.getD 0) s t fun v s' => Run P l (s'.put d v) K := by
  cases kd <;> simp only [Kd.goC] at h
  case call f xs =>
    cases t <;> simp only at h
    split at h
    · rename_i vs e
      obtain ⟨r, h1, h2⟩ := h
      simp only [Kd.goT, Kd.go, e]
      exact ⟨r, h1, trivial, h2⟩
    · exact h.elim
  case callN f xs =>
    cases t <;> simp only at h
    · split at h
      · rename_i vs e
        obtain ⟨mu, ty, w, ys, h1, h2, _, h3⟩ := h
        simp only [Kd.goT, Kd.go, e]
        exact ⟨mu, ty, w, ys, h1, h2, trivial, h3⟩
      · exact h.elim
    · split at h
      · rename_i vs e
        obtain ⟨mu, ty, w, ys, h1, h2, h4, h3⟩ := h
        simp only [Kd.goT, Kd.go, e]
        exact ⟨mu, ty, w, ys, h1, h2, h4, h3⟩
      · exact h.elim
  case callW f xs =>
    cases t <;> simp only at h
    · obtain ⟨r, rows, h0, h1, _, h2⟩ := h
      simp only [Kd.goT, Kd.go]
      exact ⟨r, rows, h0, h1, trivial, h2⟩
    · obtain ⟨r, rows, h0, h1, hk, h2⟩ := h
      simp only [Kd.goT, Kd.go]
      exact ⟨r, rows, h0, h1, hk, h2⟩
  case callR f xs =>
    cases t <;> simp only at h
    obtain ⟨r, rows, h0, h1, h2⟩ := h
    simp only [Kd.goT, Kd.go]
    exact ⟨r, rows, h0, h1, trivial, h2⟩
  case callS f xs =>
    cases t <;> simp only at h
    · obtain ⟨r, S', h1, h2, h3⟩ := h
      exact ⟨r, S', h1, trivial, h3⟩
    · obtain ⟨r, S', h1, h2, h3⟩ := h
      exact ⟨r, S', h1, h2, h3⟩
  case callV f xs =>
    split at h
    · rename_i g caps e
      obtain ⟨hp, h⟩ := h
      cases t <;> simp only at h
      · obtain ⟨r, S', h1, h2, h3⟩ := h
        simp only [Kd.goT, Kd.go, e]
        exact ⟨hp, r, S', h1, trivial, h3⟩
      · obtain ⟨r, S', h1, h2, h3⟩ := h
        simp only [Kd.goT, Kd.go, e]
        exact ⟨hp, r, S', h1, h2, h3⟩
    · exact h.elim
theorem run2_run : ∀ {l : List Ins} {s : AS} {K : AS → Prop}, Run2 P l s K → Run P l s K
  | [], s, K, h => h
  | i :: l, s, K, h => by
    unfold Run2 at h
    unfold Run
    split at h
    · split at h
      · rename_i e
        simp only [e]
        exact goT_mono h fun v s' _ h' => run2_run h'
      · rename_i g want e
        simp only [e]
        split at h
        · rename_i b e2
          simp only [e2]
          exact ⟨fun hb => goT_mono (h.1 hb) fun v s' _ h' => run2_run h', fun hb => run2_run (h.2 hb)⟩
        · rename_i e2
          simp only [e2]
          exact run2_run h
        · exact h.elim
    · split at h
      · rename_i e
        simp only [e]
        exact goC_run h
      · rename_i g want e
        simp only [e]
        split at h
        · rename_i b e2
          simp only [e2]
          exact ⟨fun hb => goC_run (h.1 hb), fun hb => run2_run (h.2 hb)⟩
        · rename_i e2
          simp only [e2]
          exact run2_run h
        · exact h.elim
theorem keep_run2 {l : List Ins} {s : AS} {K : AS → Prop} {A : Prop} (h : A ∧ Run2 P l s K) : A ∧ Run P l s K := ⟨h.1, run2_run h.2⟩
theorem IWP.ops2 {C : Ctx} {mu : List Nat} {Q : AX → AS → Prop} {s : AS} {l : List Ins} (h : ∀ K : AS → Prop, (∀ s, Q .normal s → K s) → Run2 P l s K) : IWP P C mu (.ops l) Q s := IWP.opsK fun K hK => run2_run (h K hK)
end
attribute [go_sem] Ins.i Opd.n rowB turnS Run2 Kd.isCall Kd.goC Kd.goT Tag.ok Kd.ptrOpd ptrIs List.forall_mem_cons List.not_mem_nil Kd.go AS.ev AS.evs AS.put AS.set updE AV.cells fills elems elemsP stP stPs stC stCs outC outCs outV outVs flats blkCells idxK listOf cutOf lenOfA binI binS optI pack splice ABlk.len AS.start AS.startS noS List.getElem?_cons_zero List.getElem?_cons_succ List.getElem?_nil List.getElem?_map Option.isSome_none Option.isSome_some Option.map_some Option.map_none Option.getD_some Option.getD_none List.length_map List.length_cons List.length_nil List.length_append List.map_cons List.map_nil List.take_succ_cons List.take_zero List.take_nil List.drop_succ_cons List.drop_zero List.drop_nil List.nil_append List.cons_append List.append_nil Nat.zero_add Nat.add_zero Nat.le_refl Nat.zero_le if_true if_false Bool.false_eq_true true_and and_true Option.some.injEq Int.toNat_natCast Int.natCast_nonneg Int.ofNat_eq_natCast ite_self decide_true decide_false not_true_eq_false not_false_eq_true true_implies false_implies implies_true Bool.true_eq_false eq_self Bool.not_true Bool.not_false beq_self_eq_true Tm.args_mk Tm.name_mk AV.rens AV.ren AC.ren AC.rens ABlk.ren upS_up dn_up dnS_upd dn_upS
abbrev Wb := @seqQ_normal
abbrev Wk := @inBlock_away
abbrev Wo := @IWP.ops2
abbrev Wp := @IWP.cond
abbrev Wq := @run2_run
abbrev Wr := @keep_run2
abbrev iC := @ite_conj
abbrev Cg := @CallG.mk
abbrev gI := @guard_ite
abbrev pI := @pick_ite
abbrev dT := @decide_eq_true_eq
abbrev dF := @decide_eq_false_iff_not
abbrev nL := @Int.ofNat_lt
abbrev eT := @encT_eq
abbrev iR := @inR_i64
theorem fN {α : Type} (p : α → Prop) : ∀ x ∈ ([] : List α), p x := List.forall_mem_nil p
class Step (goal : Prop) (prev : outParam Prop) : Prop where
  imp : prev → goal
theorem W {goal prev : Prop} [s : Step goal prev] (h : prev) : goal := s.imp h
section
variable {P : Program} {C : Ctx} {mu : List Nat} {x y : IR} {Q : AX → AS → Prop} {s : AS} {id : Nat} {K : AS → Prop}
instance : Step (IWP P C mu (.seq x y) Q s) (IWP P C mu x (seqQ P C mu y Q) s) := ⟨IWP.seq⟩
instance : Step (seqQ P C mu y Q .normal s) (IWP P C mu y Q s) := ⟨seqQ_normal⟩
instance : Step (IWP P C mu (.block id x) Q s) (IWP P C mu x (AX.inBlock id Q) s) := ⟨IWP.block⟩
instance : Step (IWP P C mu .skip Q s) (Q .normal s) := ⟨IWP.skip⟩
instance : Step (IWP P C mu (.exit id) Q s) (Q (.exit id) s) := ⟨IWP.exit⟩
instance : Step (IWP P C mu .ret Q s) (Q .ret s) := ⟨IWP.ret⟩
instance : Step (seqQ P C mu y Q (.exit id) s) (Q (.exit id) s) := ⟨seqQ_exit⟩
instance : Step (seqQ P C mu y Q .ret s) (Q .ret s) := ⟨seqQ_ret⟩
instance : Step (AX.inBlock id Q .normal s) (Q .normal s) := ⟨inBlock_normal⟩
instance : Step (AX.inBlock id Q (.exit id) s) (Q .normal s) := ⟨inBlock_here⟩
instance : Step (AX.inBlock id Q .ret s) (Q .ret s) := ⟨inBlock_ret⟩
instance : Step (AX.then K Q (.exit id) s) (Q (.exit id) s) := ⟨then_exit⟩
instance : Step (AX.then K Q .ret s) (Q .ret s) := ⟨then_ret⟩
class StepC (goal : Prop) (prev : outParam Prop) : Prop where
  imp : prev → goal
class StepB (goal : Prop) (prev : outParam Prop) : Prop where
  imp : prev → goal
theorem U {goal prev : Prop} [s : StepC goal prev] (h : prev) : goal := s.imp h
instance {l : List Ins} : StepC (Run P l s K) (Run2 P l s K) := ⟨run2_run⟩
instance {l : List Ins} {A : Prop} : StepC (A ∧ Run P l s K) (A ∧ Run2 P l s K) := ⟨keep_run2⟩
instance {l : List Ins} : StepB (Run P l s K) (Run2 P l s K) := ⟨run2_run⟩
instance {l : List Ins} {A : Prop} : StepB (A ∧ Run P l s K) (A ∧ Run2 P l s K) := ⟨keep_run2⟩
instance {c0 : Opd} : StepB (IWP P C mu (.cond c0 x y) Q s) (match s.ev c0 with | .one (.st (.bool b)) => (b = true → IWP P C mu x Q s) ∧ (b = false → IWP P C mu y Q s) | .one .ubool => IWP P C mu x Q s ∧ IWP P C mu y Q s | _ => False) := ⟨IWP.cond⟩
end
theorem IWP.fresh {P : Program} {C : Ctx} {mu : List Nat} {x : IR} {Q : AX → AS → Prop} {s : AS} (h1000 : ∀ i, 1000 ≤ i → s.S i = none) (h : ∀ env' : Nat → AV, (∀ i v, s.env i = .one (.st v) → env' i = .one (.st v)) → IWP P C mu x Q ⟨env', noS⟩) : IWP P C mu x Q s := by
  refine IWP.ghost (Ghost.low (s := s) fun i b hi hb => by rw [h1000 i hi] at hb; cases hb) ?_
  have e : lowS s.S = noS := by
    funext i
    show (if i < 1000 then none else s.S i) = none
    split
    · rfl
    · exact h1000 i (by omega)
  rw [e]
  exact h _ fun i v hv => by rw [hv]; rfl
theorem IWP.mid {P : Program} {C : Ctx} {mu : List Nat} {x y : IR} {Q : AX → AS → Prop} {s : AS} (M : AS → Prop) (h1 : IWP P C mu x (fun e s => e = .normal ∧ M s) s) (h2 : ∀ s, M s → IWP P C mu y Q s) : IWP P C mu (x.seq y) Q s :=
  IWP.seq (h1.mono fun e s ⟨he, hm⟩ => by subst he; exact seqQ_normal (h2 s hm))
theorem once {R G : Prop} (f : R → G) (h : R) : G := f h
end Go.Proofs.YtehnjhkndbcmgaaDoor

namespace Go.Proofs.YtehnjhkndbcmgaaDoor
open Go Go.RowKit
set_option linter.unusedVariables false
theorem purgeS {ds : List Nat} (hds : ∀ d ∈ ds, d < 1000) {x : Option ABlk} (hb : ∀ b, x = some b → b.high = true) : x.map (ABlk.purge ds) = x := by
  cases h : x with
  | none => rfl
  | some b => rw [Option.map_some, ABlk.purge_high hds (hb b h)]
theorem lowS_is {S S1 : AStore} {a0 : Nat} {b : ABlk} (hS : Clean S) (ha : 1000 ≤ a0) (h1 : S1 a0 = some b) (h2 : ∀ i, 1000 ≤ i → i ≠ a0 → S1 i = S i) : lowS S1 = updE S a0 (some b) := by
  funext i
  show (if i < 1000 then none else S1 i) = _
  by_cases e : i = a0
  · subst e
    rw [if_neg (by omega), updE_same, h1]
  · rw [updE_ne _ e]
    by_cases hi : i < 1000
    · rw [if_pos hi, clean_none hS hi]
    · rw [if_neg hi, h2 i (by omega) e]
theorem highs_is {S S1 : AStore} {a0 : Nat} {b : ABlk} (hS : Clean S) (hb : b.high = true) (h1 : S1 a0 = some b) (h2 : ∀ i, 1000 ≤ i → i ≠ a0 → S1 i = S i) : ∀ i c, 1000 ≤ i → S1 i = some c → c.high = true := fun i c hi hc => by
  by_cases e : i = a0
  · subst e
    rw [h1] at hc
    cases hc
    exact hb
  · rw [h2 i hi e] at hc
    exact (hS i c hc).2
theorem finS_one {C : Ctx} {rs : List RV} {r : AV} {e : AX} {s : AS} {S : AStore} {a0 : Nat} {b : ABlk} (r0 : AV) (hS : Clean S) (ha : 1000 ≤ a0) (hb : b.high = true) (he : match e with | .normal => True | .ret => True | _ => False)
    (h1 : (resAll s rs).map tupV = some r0) (h2 : outV s.S r0 = some r) (h3 : s.S a0 = some b) (h4 : ∀ i, 1000 ≤ i → i ≠ a0 → s.S i = S i) : FinS C rs r (updE S a0 (some b)) e s :=
  finS_low he r0 h1 h2 (highs_is hS hb h3 h4) (lowS_is hS ha h3 h4) (clean_upd hS ha hb)
theorem finS_two {C : Ctx} {rs : List RV} {r : AV} {e : AX} {s : AS} {S : AStore} {a0 b0 : Nat} {b c : ABlk} (r0 : AV) (hS : Clean S) (ha : 1000 ≤ a0) (hb0 : 1000 ≤ b0) (hne : b0 ≠ a0) (hb : b.high = true) (hc : c.high = true) (he : match e with | .normal => True | .ret => True | _ => False)
    (h1 : (resAll s rs).map tupV = some r0) (h2 : outV s.S r0 = some r) (h3 : s.S a0 = some b) (h3' : s.S b0 = some c) (h4 : ∀ i, 1000 ≤ i → i ≠ a0 → i ≠ b0 → s.S i = S i) : FinS C rs r (updE (updE S a0 (some b)) b0 (some c)) e s :=
  finS_low he r0 h1 h2 (fun i x hi hx => by
    by_cases e1 : i = a0
    · subst e1; rw [h3] at hx; cases hx; exact hb
    · by_cases e2 : i = b0
      · subst e2; rw [h3'] at hx; cases hx; exact hc
      · rw [h4 i hi e1 e2] at hx; exact (hS i x hx).2) (by
    funext i
    show (if i < 1000 then none else s.S i) = _
    by_cases e2 : i = b0
    · subst e2
      rw [updE_same, if_neg (by omega), h3']
    · rw [updE_ne _ e2]
      by_cases e1 : i = a0
      · subst e1
        rw [updE_same, if_neg (by omega), h3]
      · rw [updE_ne _ e1]
        by_cases hi : i < 1000
        · rw [if_pos hi, clean_none hS hi]
        · rw [if_neg hi, h4 i (by omega) e1 e2]) (clean_upd (clean_upd hS ha hb) hb0 hc)
end Go.Proofs.YtehnjhkndbcmgaaDoor

namespace Go.Proofs.YtehnjhkndbcmgaaDoor
open Go Go.RowKit
set_option linter.unusedVariables false
theorem acallsS_hand {P : Program} {f : FuncId} {xs : List AV} {S : AStore} {r : AV} {S' : AStore} (hS' : Clean S → Clean S')
    (h : Clean S → ∀ (C : Ctx) (σ : Sto) (ι : AHnd) (vs : List Value) (w : World), C.n = xs.length → Refs C σ ι (AS.startS xs S) { tmps := vs.toArray, defers := [] } w → All2 (VRep σ S ι) vs xs → Calls P f vs.toArray w fun e w' => ∃ v σ' ι' env', e = .returned v ∧ Refs C σ' ι' ⟨env', S'⟩ { tmps := vs.toArray, defers := [] } w' ∧ VRep σ' S' ι' v r) : ACallsS P f xs S r S' := by
  intro hclean σ w vs ι hglob hfit hown hvs
  have hl := hvs.len
  let C : Ctx := ⟨xs.length, w.heap.size, fun g => ¬ notOf S ι g, σ, w, S, ι, hclean, hglob, []⟩
  have R : Refs C σ ι (AS.startS xs S) { tmps := vs.toArray, defers := [] } w := by
    refine ⟨by simp [C, hl], fun i hi => ?_, rfl, hfit, hown.1, hown.2, fun id b g h hg => .inr (fun hno => hno id b h hg), fun _ _ h => h, fun _ _ _ => rfl, ⟨rfl, rfl, rfl⟩, ⟨Nat.le_refl _, Nat.le_refl _⟩, fun _ _ _ => rfl, Upd.refl _ _⟩
    show VRep σ S ι _ ((xs[i]?).getD (.tup []))
    have hi : i < xs.length := hi
    have hi2 : i < vs.length := by omega
    obtain ⟨b, hb1, hb2⟩ := hvs.get' (List.getElem?_eq_getElem hi2)
    rw [Array.getD_eq_getD_getElem?, hb1]
    simpa [hi2] using hb2
  refine (h hclean C σ ι vs w rfl R hvs).mono fun e w' ⟨v, σ', ι', env', he, R', hv⟩ => ?_
  exact ⟨v, σ', ι', he, hS' hclean, R'.upd, ⟨R'.blk, R'.inj⟩, hv, R'.fit, R'.ext, fun p h1 h2 => R'.old p h1 (fun h => h h2), R'.os, R'.grown.2, fun g h1 h2 => R'.same g h1 (fun h => h h2), fun id b g h1 h2 => R'.base id b g h1 h2⟩
theorem Ghost.ownCell {C : Ctx} {s : AS} {id r : Nat} {e e' : TypeId} {cs : List AC} (j wd : Nat) (hS : s.S id = some (.box e cs)) (hj : cs[j]? = some (.full [])) (hr : s.S r = none) (hne : id ≠ r) :
    Ghost C s ((s.set r (.mrow e' wd [])).set id (.box e (cs.set j (.row r 0)))) := fun a w ⟨σ, ι, R⟩ => by
  have hb := R.blk _ _ hS
  cases hb with
  | @box _ _ g vs k1 k2 k3 k4 k5 =>
    obtain ⟨v, hv, hvr⟩ := k4.get hj
    cases hvr with
    | @full p len xs hs =>
      have hl : len = 0 := by
        obtain ⟨p', cap', e1, _⟩ := srep_slice hs
        cases e1
        rfl
      subst hl
      obtain ⟨hu, R'⟩ := R.fresh (w' := w) hr (.mrow e' wd []) ⟨p, 0, none⟩ (Ext.refl _ _) R.fit (Below.refl _ _) (by simp) (fun S' ι' hu => .mnil rfl rfl)
      have hS' : (s.set r (.mrow e' wd [])).S id = some (.box e cs) := by simp [AS.set, updE_ne _ hne, hS]
      have hι : updE ι r ⟨p, 0, none⟩ id = ι id := updE_ne _ hne _
      have hrr : (s.set r (.mrow e' wd [])).S r = some (.mrow e' wd []) := by simp [AS.set, updE_same]
      obtain ⟨hu2, R2⟩ := R'.turn (w' := w) hS' (.box e (cs.set j (.row r 0))) (updE ι r ⟨p, 0, none⟩ id) (σ' := σ) (fun _ _ h => h) (fun _ _ _ => rfl) R.fit (by simp [ABlk.len]) (fun _ => ⟨rfl, rfl⟩) ⟨rfl, rfl, rfl⟩ (Nat.le_refl _) (fun _ _ _ => rfl) (fun g h => .inl h)
        (fun hu2 => by
          rw [hι] at hu2 ⊢
          refine .box k1 k2 k3 (All2.of_get (by rw [List.length_set]; exact k4.len) fun q u c hu3 hc => ?_) k5
          by_cases e2 : q = j
          · subst e2
            rw [hv] at hu3
            cases hu3
            rw [List.getElem?_set_self (List.getElem?_eq_some_iff.1 hj).1] at hc
            cases hc
            refine .row (b := .mrow e' wd []) (by simp [AS.set, updE, Ne.symm hne]) (Nat.le_refl _) rfl fun _ => ?_
            simp [updE, Ne.symm hne]
          · rw [List.getElem?_set_ne (fun e => e2 e.symm)] at hc
            obtain ⟨u', hu', hr'⟩ := k4.get hc
            rw [hu3] at hu'
            cases hu'
            exact (hr'.mono (fun _ _ h => h) hu).mono (fun _ _ h => h) hu2)
      exact ⟨σ, _, R2⟩
end Go.Proofs.YtehnjhkndbcmgaaDoor

namespace Go.Proofs.YtehnjhkndbcmgaaDoor
open Go Go.RowKit
set_option maxRecDepth 100000
def ir_strings_Builder_WriteString : IR :=
  (.seq (.ops [.i 4 (.mov (.n 0)), .i 5 (.mov (.c (.one (.st (.lit .nilIface)))))]) (.seq (.ops [.i 6 (.mov (.t 0)), .i 7 (.callS 52 [.t 6])]) (.seq (.ops [.i 8 (.mov (.t 0)), .i 9 (.mov (.t 0)), .i 10 (.nilCheck (.t 9)), .i 11 (.fieldAddr 1 (.t 10)), .i 12 (.load false 1 (.t 11)), .i 13 (.mov (.t 1)), .i 14 (.appS 5 (.t 12) (.t 13)), .i 15 (.nilCheck (.t 8)), .i 16 (.fieldAddr 1 (.t 15)), .mk none none (.store 1 (.t 16) (.t 14)) .no]) (.seq (.ops [.i 17 (.mov (.t 1)), .i 18 (.len true (.t 17)), .i 4 (.mov (.t 18)), .i 5 (.mov (.c (.one (.st (.lit .nilIface)))))]) .ret))))
theorem tr_strings_Builder_WriteString : trCode Tryd.prog 19 [7] (Tryd.f44.body.getD .skip) = some ir_strings_Builder_WriteString := by kernel_rfl
theorem acS_strings_Builder_WriteString {xs : List AV} {S S' : AStore} {r : AV} (hn : xs.length ≤ 19) (h : Clean S → ∀ C : Ctx, C.n = 19 → IWP Tryd.prog C [7] ir_strings_Builder_WriteString (FinS C [.t 4, .t 5] r S') (AS.startS xs S)) : ACallsS Tryd.prog 44 xs S r S' :=
  acallsS_of Tryd.func44 rfl tr_strings_Builder_WriteString rfl hn h
def ir_strings_Builder_WriteByte : IR :=
  (.seq (.ops [.i 4 (.mov (.c (.one (.st (.lit .nilIface)))))]) (.seq (.ops [.i 5 (.mov (.t 0)), .i 6 (.callS 52 [.t 5])]) (.seq (.ops [.i 7 (.mov (.t 0)), .i 8 (.mov (.t 0)), .i 9 (.nilCheck (.t 8)), .i 10 (.fieldAddr 1 (.t 9)), .i 11 (.load false 1 (.t 10)), .i 12 (.mov (.t 1)), .i 13 (.buildFlat [.t 12]), .i 14 (.append true 5 1 1 (.t 11) (.t 13)), .i 15 (.nilCheck (.t 7)), .i 16 (.fieldAddr 1 (.t 15)), .mk none none (.store 1 (.t 16) (.t 14)) .no]) (.seq (.ops [.i 4 (.mov (.c (.one (.st (.lit .nilIface)))))]) .ret))))
theorem tr_strings_Builder_WriteByte : trCode Tryd.prog 17 [6, 14] (Tryd.f45.body.getD .skip) = some ir_strings_Builder_WriteByte := by kernel_rfl
theorem acS_strings_Builder_WriteByte {xs : List AV} {S S' : AStore} {r : AV} (hn : xs.length ≤ 17) (h : Clean S → ∀ C : Ctx, C.n = 17 → IWP Tryd.prog C [6, 14] ir_strings_Builder_WriteByte (FinS C [.t 4] r S') (AS.startS xs S)) : ACallsS Tryd.prog 45 xs S r S' :=
  acallsS_of Tryd.func45 rfl tr_strings_Builder_WriteByte rfl hn h
end Go.Proofs.YtehnjhkndbcmgaaDoor

namespace Go.Proofs.YtehnjhkndbcmgaaDoor
open Go Go.RowKit
set_option linter.unusedVariables false
set_option linter.unusedSimpArgs false
set_option maxHeartbeats 1000000
theorem sizeBuilderB : (Tryd.prog.info? 83).map (fun i => i.size) = some 2 := by kernel_rfl
set_option maxRecDepth 100000 in
theorem copyCheck_usedB (b : Nat) (w : World) (h0 : w.cell? ⟨b, 0, none⟩ = some (.pointer (some ⟨b, 0, none⟩))) :
    Calls Tryd.prog 52 #[.pointer (some ⟨b, 0, none⟩)] w fun e w' => e = .returned (.tuple #[]) ∧ w' = w := by
  obtain ⟨j, hj, _⟩ := Option.map_eq_some_iff.1 sizeBuilderB
  go_enter Tryd.func52, Tryd.ntmps52
  go_wp2
  rw [Lib.run_neq_ptr_same w _ Tryd.underlying80 hj]
  go_wp2
  go_end0
  exact ⟨rfl, rfl⟩
set_option maxRecDepth 100000 in
theorem copyCheck_freshB (b : Nat) (w : World) (h0 : w.cell? ⟨b, 0, none⟩ = some (.pointer none)) (hsh : w.shape? b = some (83, 2)) (hfz : w.frozen? ⟨b, 0, none⟩ = false) :
    Calls Tryd.prog 52 #[.pointer (some ⟨b, 0, none⟩)] w fun e w' => e = .returned (.tuple #[]) ∧ w' = w.setCell ⟨b, 0, none⟩ (.pointer (some ⟨b, 0, none⟩)) := by
  obtain ⟨j, hj, hjs⟩ := Option.map_eq_some_iff.1 sizeBuilderB
  go_enter Tryd.func52, Tryd.ntmps52
  go_wp2
  rw [Lib.run_to_unsafe w ⟨b, 0, none⟩ Tryd.underlying80 Tryd.underlying117 hj (by rw [hjs]; decide) hsh (Nat.zero_lt_succ 1)]
  simp only [Result.andThen]
  rw [Oper.upon_value]
  go_wp2
  rw [run_callFunc_extern Tryd.func64 (by kernel_rfl) (by kernel_rfl) (by kernel_rfl) (e := Extern.AbiNoEscape.same) (by kernel_rfl)]
  rw [Lib.run_noEscape]
  simp only [Result.andThen]
  rw [Oper.upon_value]
  go_wp2
  rw [Lib.run_from_unsafe w ⟨b, 0, none⟩ Tryd.underlying117 Tryd.underlying80 hj hsh (by kernel_rfl)]
  simp only [Result.andThen]
  rw [Oper.upon_value]
  go_wp2
  go_end0
  exact ⟨rfl, rfl⟩
def Frz (w w' : World) (g : Nat) : Prop := w'.heap.size = w.heap.size ∧ (∀ k, k ≠ g → w'.heap[k]? = w.heap[k]?) ∧ w'.os = w.os ∧ w'.tape = w.tape ∧ w'.output = w.output
theorem frz_freeze (w : World) (g n : Nat) : Frz w (w.drew.freeze ⟨g, 0, none⟩ n) g := by
  unfold World.freeze
  split
  · exact ⟨rfl, fun _ _ => rfl, rfl, rfl, rfl⟩
  · refine ⟨by simp, fun k hk => ?_, rfl, rfl, rfl⟩
    simp only [Array.getElem?_modify]
    rw [if_neg (fun e => hk e.symm)]
    rfl
set_option maxRecDepth 100000 in
theorem builderString_at (b g cap : Nat) (p : Value) (cur : Array Value) (l : List UInt8) (w : World) (h0 : l ≠ []) (hbk : w.heap[b]? = some (.cells #[p, .slice (some ⟨g, 0, none⟩) l.length cap] 83 (0, 0))) (hbg : w.heap[g]? = some (.cells cur 5 (0, 0)))
    (hcm : cap ≤ maxLen) (hnc : l.length ≤ cap) (hsz : l.length ≤ cur.size) (hcur : ∀ (j : Nat) (x : UInt8), l[j]? = some x → cur[j]? = some (Value.int .u8 (x.toNat : Int))) :
    Calls Tryd.prog 35 #[.pointer (some ⟨b, 0, none⟩)] w fun e w' => e = .returned (.string ⟨l.toArray⟩) ∧ Frz w w' g := by
  have hl0 : l.length ≠ 0 := by simpa using h0
  have c1 : w.drew.cell? ⟨b, 1, none⟩ = some (.slice (some ⟨g, 0, none⟩) l.length cap) := by
    have : w.drew.heap[b]? = some (.cells #[p, .slice (some ⟨g, 0, none⟩) l.length cap] 83 (0, 0)) := hbk
    rw [Lib.cell_of_heap this]; rfl
  have hSD : (Builtin.unsafeSliceData_ #[81] 98 #[.slice (some ⟨g, 0, none⟩) l.length cap]).run Tryd.prog w.drew = .ok (.pointer (some ⟨g, 0, none⟩)) w.drew :=
    Lib.run_unsafeSliceData_row _ _ _ _ _ _ (by omega)
  have hUS : (Builtin.unsafeString_ #[98, 3] 9 #[.pointer (some ⟨g, 0, none⟩), .int .i64 l.length]).run Tryd.prog w.drew = .ok (.string ⟨l.toArray⟩) (w.drew.freeze ⟨g, 0, none⟩ l.length) := by
    refine Lib.run_unsafeString_row w.drew 98 3 9 5 Tryd.underlying98 (by kernel_rfl) g cur.size (by have hg' : w.drew.heap[g]? = some (.cells cur 5 (0, 0)) := hbg; simp [World.shape?, hg']) l h0 (by omega) (by unfold maxLen at hcm; omega) ?_
    intro j x hx
    have hg' : w.drew.heap[g]? = some (.cells cur 5 (0, 0)) := hbg
    rw [addr_add, Nat.zero_add, cell_of_row w.drew g _ _ _ _ hg']
    exact hcur j x hx
  go_enter Tryd.func35, Tryd.ntmps35
  go_wp2
  have mixed : Tryd.prog.follows Departure.mixedOrders = true := by kernel_rfl
  go_region_o
  all_goals (go_wp2; go_ret; exact ⟨rfl, frz_freeze w g l.length⟩)
abbrev bT : TypeId := 83
abbrev u8T : TypeId := 5
structure Bld (S : AStore) (a0 r : Nat) (bs : ByteArray) : Prop where
  ha : 1000 ≤ a0
  hr : 1000 ≤ r
  ne : a0 ≠ r
  box : ∃ p, (p = .st (.lit (.pointer none)) ∨ p = .ptr a0 1 0 0) ∧ S a0 = some (.box bT [p, .row r bs.size])
  row : S r = some (.mrow u8T 1 (byteRow bs))
def bldS (S : AStore) (a0 r : Nat) (bs : ByteArray) : AStore := updE (updE S a0 (some (.box bT [.ptr a0 1 0 0, .row r bs.size]))) r (some (.mrow u8T 1 (byteRow bs)))
theorem Bld.next {S : AStore} {a0 r : Nat} {bs cs : ByteArray} (h : Bld S a0 r bs) : Bld (bldS S a0 r cs) a0 r cs :=
  ⟨h.ha, h.hr, h.ne, ⟨_, .inr rfl, by unfold bldS; rw [updE_ne _ h.ne, updE_same]⟩, by unfold bldS; rw [updE_same]⟩
theorem ptr_val {σ : Sto} {S : AStore} {ι : AHnd} {v : Value} {a0 : Nat} {e : TypeId} {cs : List AC} (h : VRep σ S ι v (.one (.ptr a0 1 0 0))) (hS : S a0 = some (.box e cs)) : ∃ g, (ι a0).g = some g ∧ v = .pointer (some ⟨g, 0, none⟩) := by
  have h := vrep_one h
  cases h with
  | @ptr _ _ _ _ _ b h1 h2 h3 h4 =>
    rw [hS] at h1
    cases h1
    obtain ⟨g, g1, g2⟩ := h4 rfl
    exact ⟨g, g1, by rw [g2]; rfl⟩
theorem aptr_val {σ : Sto} {S : AStore} {ι : AHnd} {v : Value} {a0 : Nat} {e : TypeId} {cs : List AC} (h : ARep σ S ι v (.ptr a0 1 0 0)) (hS : S a0 = some (.box e cs)) : ∃ g, (ι a0).g = some g ∧ v = .pointer (some ⟨g, 0, none⟩) := ptr_val (.one h) hS
theorem list_two {α : Type} {l : List α} (h : l.length = 2) : ∃ a b, l = [a, b] := by
  match l, h with
  | [a, b], _ => exact ⟨a, b, rfl⟩
theorem copyCheck_S {a0 r : Nat} {bs : ByteArray} {S : AStore} (h : Bld S a0 r bs) : ACallsS Tryd.prog 52 [.one (.ptr a0 1 0 0)] S (.tup []) (updE S a0 (some (.box bT [.ptr a0 1 0 0, .row r bs.size]))) := by
  obtain ⟨p, hp, hSa⟩ := h.box
  refine acallsS_hand (fun hc => clean_upd hc h.ha (by simp only [ABlk.high, AC.highs, AC.high, decide_eq_true h.ha, decide_eq_true h.hr, Bool.and_self])) fun hclean C σ ι vs w hn R hvs => ?_
  obtain ⟨v, rfl⟩ : ∃ v, vs = [v] := by
    have := hvs.len
    match vs, this with
    | [v], _ => exact ⟨v, rfl⟩
  have hv : VRep σ S ι v (.one (.ptr a0 1 0 0)) := by cases hvs with | cons h _ => exact h
  obtain ⟨g, hg, rfl⟩ := ptr_val hv hSa
  have hb := R.blk a0 _ hSa
  cases hb with
  | @box _ _ g' vs k1 k2 k3 k4 k5 =>
  rw [hg] at k1
  cases k1
  obtain ⟨v0, v1, hvs2⟩ := list_two (show vs.toList.length = 2 by rw [k4.len]; rfl)
  obtain rfl : vs = #[v0, v1] := Array.ext' hvs2
  have r0 : ARep σ S ι v0 p := by cases k4 with | cons h _ => exact h
  have r1 : ARep σ S ι v1 (.row r bs.size) := by cases k4 with | cons _ h => cases h with | cons h _ => exact h
  have c0 : w.cell? ⟨g, 0, none⟩ = some v0 := by rw [Lib.cell_of_heap k3]; rfl
  have key : ∀ w', w' = w.setRow g #[.pointer (some ⟨g, 0, none⟩), v1] → ∃ σ' ι' env', Refs C σ' ι' ⟨env', updE S a0 (some (.box bT [.ptr a0 1 0 0, .row r bs.size]))⟩ { tmps := #[.pointer (some ⟨g, 0, none⟩)], defers := [] } w' ∧ VRep σ' (updE S a0 (some (.box bT [.ptr a0 1 0 0, .row r bs.size]))) ι' (.tuple #[]) (.tup []) := fun w' hw' => by
    subst hw'
    obtain ⟨hu, R'⟩ := R.turn (w' := w.setRow g #[.pointer (some ⟨g, 0, none⟩), v1]) hSa (.box bT [.ptr a0 1 0 0, .row r bs.size]) (ι a0) (σ' := σ) (fun _ _ h => h) (fun _ _ _ => rfl) (R.fit.row k5 fun k hk => setRow_other _ _ _ _ hk) (by simp [ABlk.len]) (fun _ => ⟨rfl, rfl⟩) (setRow_frame _ _) (by simp)
      (fun k hk hne => setRow_other _ _ _ _ (fun e => hne (by rw [e]; exact hg))) (fun g h => .inl h) (fun hu => .box hg k2 (setRow_heap w _ _ _ _ _ k3) (.cons (.ptr (b := .box bT [.ptr a0 1 0 0, .row r bs.size]) (by simp [AS.set, updE_same]) (by simp [ABlk.len]) rfl fun _ => ⟨g, by rw [updE_same]; exact hg, by simp [ABlk.wid]⟩) (.cons (r1.mono (fun _ _ h => h) hu) .nil)) k5)
    exact ⟨σ, _, _, R', .tup (fun _ => undef) rfl (by simp) (by simp)⟩
  rcases hp with rfl | rfl
  · have e0 : v0 = .pointer none := by cases r0 with | st h => cases h with | lit _ => rfl
    subst e0
    refine (copyCheck_freshB g w c0 (by simp [World.shape?, k3]) (Lib.frozen_of_heap k3 0)).mono ?_
    rintro e w' ⟨rfl, rfl⟩
    obtain ⟨σ', ι', env', R', hv'⟩ := key _ (setCell_eq_setRow w g 0 _ _ _ _ k3)
    exact ⟨_, σ', ι', env', rfl, R', hv'⟩
  · obtain ⟨g2, hg2, e0⟩ := aptr_val r0 hSa
    rw [hg] at hg2
    cases hg2
    subst e0
    refine (copyCheck_usedB g w c0).mono ?_
    rintro e w' ⟨rfl, rfl⟩
    obtain ⟨σ', ι', env', R', hv'⟩ := key _ (setRow_self w' g _ _ _ k3).symm
    exact ⟨_, σ', ι', env', rfl, R', hv'⟩
theorem byteRow_app (a b : ByteArray) : byteRow (a ++ b) = byteRow a ++ byteRow b := by unfold byteRow; simp
theorem bld_up {a0 r : Nat} {bs : ByteArray} {S : AStore} (h : Bld S a0 r bs) : Bld (upS S) (up1 a0) (up1 r) bs := by
  obtain ⟨p, hp, hSa⟩ := h.box
  refine ⟨up1_le _, up1_le _, fun e => h.ne (Nat.add_right_cancel e), ?_, by rw [upS_some h.row]; rfl⟩
  rcases hp with rfl | rfl
  · exact ⟨_, .inl rfl, by rw [upS_some hSa]; rfl⟩
  · exact ⟨_, .inr rfl, by rw [upS_some hSa]; rfl⟩
theorem bld_high {a0 r n : Nat} (ha : 1000 ≤ a0) (hr : 1000 ≤ r) : (ABlk.box bT [.ptr a0 1 0 0, .row r n]).high = true := by simp only [ABlk.high, AC.highs, AC.high, decide_eq_true ha, decide_eq_true hr, Bool.and_self]
theorem writeString_S {a0 r : Nat} {bs : ByteArray} {S : AStore} (h : Bld S a0 r bs) (s : ByteArray) (hz : bs.size + s.size ≤ 140737488355328) : ACallsS Tryd.prog 44 [.one (.ptr a0 1 0 0), aStr s] S (.tup [aInt s.size, .one (.st (.lit .nilIface))]) (bldS S a0 r (bs ++ s)) := by
  obtain ⟨p, hp, hSa⟩ := h.box
  have hSr := h.row
  have ha := h.ha
  have hr := h.hr
  have hne := h.ne
  have hne2 : ¬ r = a0 := fun e => hne e.symm
  have hbl := byteRow_len bs
  refine acS_strings_Builder_WriteString (Nat.le_of_ble_eq_true rfl) fun hS C hC => ?_
  unfold ir_strings_Builder_WriteString
  repeat' (first | (with_reducible first | refine W ?_ | refine Wk (by decide) ?_) | ((with_reducible first | refine Wo (fun K hK => ?_) | refine Wp ?_ | refine Wq ?_ | refine Wr ?_); (try simp only [go_sem, fN, ↓gI, ↓pI, seval, eT, iR, hSa, dT, dF, nL]); (repeat with_reducible refine And.intro (by first | omega | (with_reducible exact lens) | (simp [maxLen_eq] <;> omega)) ?_); (try (with_reducible refine hK _ ?_; clear hK K)); (try with_reducible refine iC ?_)))
  refine ⟨_, _, copyCheck_S (bld_up h), ?_⟩
  repeat' (first | (with_reducible first | refine W ?_ | refine Wk (by decide) ?_) | ((with_reducible first | refine Wo (fun K hK => ?_) | refine Wp ?_ | refine Wq ?_ | refine Wr ?_); (try simp only [go_sem, fN, ↓gI, ↓pI, seval, eT, iR, hSa, hSr, hne, hne2, hbl, dT, dF, nL]); (repeat with_reducible refine And.intro (by first | omega | (with_reducible exact lens) | (simp [maxLen_eq] <;> omega)) ?_); (try (with_reducible refine hK _ ?_; clear hK K)); (try with_reducible refine iC ?_)))
  refine finS_two (.tup [aInt s.size, .one (.st (.lit .nilIface))]) hS ha hr hne2 (bld_high ha hr) rfl trivial ?_ ?_ ?_ ?_ fun i hi i1 i2 => ?_
  · simp only [go_sem, fN, ↓gI, ↓pI, seval, eT, iR, resAll, resOne, tupV]
  · simp only [go_sem, fN, ↓gI, ↓pI, seval, eT, iR]
    try rfl
  · simp only [go_sem, fN, ↓gI, ↓pI, seval, eT, iR, hne, hne2]
    try (rw [ByteArray.size_append])
  · simp only [go_sem, fN, ↓gI, ↓pI, seval, eT, iR, hne, hne2, byteRow_app]
  · simp only [go_sem, fN, ↓gI, ↓pI, seval, eT, iR, i1, i2]
theorem byteRow_one (c : UInt8) : byteRow ⟨#[c]⟩ = [[.int .u8 (c.toNat : Int)]] := rfl
theorem writeByte_S {a0 r : Nat} {bs : ByteArray} {S : AStore} (h : Bld S a0 r bs) (c : UInt8) (hz : bs.size + 1 ≤ 140737488355328) : ACallsS Tryd.prog 45 [.one (.ptr a0 1 0 0), .one (.st (.int .u8 (c.toNat : Int)))] S (.one (.st (.lit .nilIface))) (bldS S a0 r (bs ++ ⟨#[c]⟩)) := by
  obtain ⟨p, hp, hSa⟩ := h.box
  have hSr := h.row
  have ha := h.ha
  have hr := h.hr
  have hne := h.ne
  have hne2 : ¬ r = a0 := fun e => hne e.symm
  have hbl := byteRow_len bs
  have hsz : (bs ++ ⟨#[c]⟩).size = bs.size + 1 := by rw [ByteArray.size_append]; rfl
  refine acS_strings_Builder_WriteByte (Nat.le_of_ble_eq_true rfl) fun hS C hC => ?_
  unfold ir_strings_Builder_WriteByte
  repeat' (first | (with_reducible first | refine W ?_ | refine Wk (by decide) ?_) | ((with_reducible first | refine Wo (fun K hK => ?_) | refine Wp ?_ | refine Wq ?_ | refine Wr ?_); (try simp only [go_sem, fN, ↓gI, ↓pI, seval, eT, iR, hSa, dT, dF, nL]); (repeat with_reducible refine And.intro (by first | omega | (with_reducible exact lens) | (simp [maxLen_eq] <;> omega)) ?_); (try (with_reducible refine hK _ ?_; clear hK K)); (try with_reducible refine iC ?_)))
  refine ⟨_, _, copyCheck_S (bld_up h), ?_⟩
  have h63 : bs.size + 1 ≤ maxLen := by rw [maxLen_eq]; omega
  repeat' (first | (with_reducible first | refine W ?_ | refine Wk (by decide) ?_) | ((with_reducible first | refine Wo (fun K hK => ?_) | refine Wp ?_ | refine Wq ?_ | refine Wr ?_); (try simp only [go_sem, fN, ↓gI, ↓pI, seval, eT, iR, hSa, hSr, hne, hne2, hbl, h63, dT, dF, nL]); (repeat with_reducible refine And.intro (by first | omega | (with_reducible exact lens) | (simp [maxLen_eq] <;> omega)) ?_); (try (with_reducible refine hK _ ?_; clear hK K)); (try with_reducible refine iC ?_)))
  refine finS_two (.one (.st (.lit .nilIface))) hS ha hr hne2 (bld_high ha hr) rfl trivial ?_ ?_ ?_ ?_ fun i hi i1 i2 => ?_
  · simp only [go_sem, fN, ↓gI, ↓pI, seval, eT, iR, resAll, resOne, tupV]
  · simp only [go_sem, fN, ↓gI, ↓pI, seval, eT, iR]
    try rfl
  · simp only [go_sem, fN, ↓gI, ↓pI, seval, eT, iR, hne, hne2, hbl, hsz]
  · simp only [go_sem, fN, ↓gI, ↓pI, seval, eT, iR, hne, hne2, byteRow_app, byteRow_one]
  · simp only [go_sem, fN, ↓gI, ↓pI, seval, eT, iR, i1, i2]
theorem builderString_S {a0 r : Nat} {bs : ByteArray} {S : AStore} (h : Bld S a0 r bs) (h0 : 0 < bs.size) (hmx : bs.size ≤ 140737488355328) : ACallsS Tryd.prog 35 [.one (.ptr a0 1 0 0)] S (aStr bs) (updE S r (some (.dead bs.size 1))) := by
  obtain ⟨p, hp, hSa⟩ := h.box
  refine acallsS_hand (fun hc => clean_upd hc h.hr rfl) fun hclean C σ ι vs w hn R hvs => ?_
  obtain ⟨v, rfl⟩ : ∃ v, vs = [v] := by
    have := hvs.len
    match vs, this with
    | [v], _ => exact ⟨v, rfl⟩
  have hv : VRep σ S ι v (.one (.ptr a0 1 0 0)) := by cases hvs with | cons h _ => exact h
  obtain ⟨g, hg, rfl⟩ := ptr_val hv hSa
  have hb := R.blk a0 _ hSa
  have hbr := R.blk r _ h.row
  have hlen : (byteRow bs).length = bs.size := byteRow_len bs
  cases hb with
  | @box _ _ g' vs k1 k2 k3 k4 k5 =>
  rw [hg] at k1
  cases k1
  obtain ⟨v0, v1, hvs2⟩ := list_two (show vs.toList.length = 2 by rw [k4.len]; rfl)
  obtain rfl : vs = #[v0, v1] := Array.ext' hvs2
  have r1 : ARep σ S ι v1 (.row r bs.size) := by cases k4 with | cons _ h => cases h with | cons h _ => exact h
  generalize hrow : byteRow bs = row at hbr hlen
  cases hbr with
  | mnil m1 m2 => simp at hlen; omega
  | @mrow _ _ _ gr cur m1 m2 m3 m4 m5 m6 m7 m8 m9 =>
  subst hrow
  have e1 : v1 = .slice (some ⟨gr, 0, none⟩) bs.size (ι r).cap := by
    cases r1 with
    | row q1 q2 q3 q4 =>
      rw [h.row] at q1
      cases q1
      rw [q4 hlen.symm, m2]
  subst e1
  have hl : bs.data.toList.length = bs.size := by rw [Array.length_toList]; rfl
  refine (builderString_at g gr (ι r).cap v0 cur bs.data.toList w (fun e => by rw [e] at hl; simp at hl; omega) (by rw [hl]; exact k3) m3 m5 (by omega) (by rw [m6, hl]; omega) fun j x hx => ?_).mono ?_
  · have hx' : (byteRow bs)[j]? = some [SV.int .u8 (x.toNat : Int)] := by
      unfold byteRow
      rw [List.getElem?_map, hx]
      rfl
    obtain ⟨u, u1, u2⟩ := m8 j _ 0 _ hx' rfl
    rw [Nat.mul_one, Nat.add_zero] at u1
    rw [u1]
    cases u2
    rfl
  · rintro e w' ⟨rfl, f1, f2, f3, f4, f5⟩
    obtain ⟨hu, R'⟩ := R.turn (w' := w') h.row (.dead bs.size 1) (ι r) (σ' := σ) (fun _ _ h => h) (fun _ _ _ => rfl) (R.fit.row m9 f2) (by simp [ABlk.len, hlen]) (fun _ => ⟨rfl, rfl⟩) ⟨f3, f4, f5⟩ (by omega)
      (fun k hk hne => f2 k (fun e => hne (by rw [e]; exact m1))) (fun g h => .inl h) (fun hu => .dead fun g hg => by
        rw [m1] at hg
        cases hg
        rw [f1]
        exact (Array.getElem?_eq_some_iff.1 m3).1)
    refine ⟨_, σ, _, _, rfl, R', .one (.st (.str ?_))⟩
    show bs.size ≤ maxLen
    rw [maxLen_eq]
    omega
end Go.Proofs.YtehnjhkndbcmgaaDoor

namespace Go.Proofs.YtehnjhkndbcmgaaDoor
open Go Go.RowKit
set_option maxRecDepth 100000
def ir_infer_within : IR :=
  (.seq (.ops [.i 2 (.box 33 (.t 0)), .i 4 (.mov (.n 0))]) (.seq (.ops [.i 7 (.mov (.t 1)), .i 8 (.bin .sub (.t 7) (.n 1)), .i 1 (.mov (.t 8))]) (.seq (.seq (.ops [.i 9 (.fieldAddr 1 (.t 2)), .i 10 (.load false 1 (.t 9)), .i 11 (.len false (.t 10)), .i 12 (.mov (.n 0))]) (.block 0 (.loop (.seq (.ops [.i 13 (.bin .lss (.t 12) (.t 11))]) (.seq (.cond (.t 13) .skip (.exit 0)) (.seq (.block 1 (.seq (.ops [.i 14 (.indexAddr 2 (.t 10) (.t 12)), .i 15 (.load true 2 (.t 14)), .i 6 (.alloc 33 [.st (.int .i64 0), .full []]), .mk none none (.store 2 (.t 6) (.t 15)) .no]) (.seq (.seq (.ops [.i 16 (.mov (.t 1)), .i 17 (.bin .lss (.t 16) (.n 0))]) (.cond (.t 17) (.exit 0) .skip)) (.ops [.i 18 (.load true 2 (.t 6)), .i 19 (.mov (.t 1)), .i 20 (.call 32 [.t 18, .t 19]), .i 1 (.mov (.t 20))])))) (.ops [.i 21 (.bin .add (.t 12) (.n 1)), .i 12 (.mov (.t 21))]))))))) (.seq (.ops [.i 22 (.mov (.t 1)), .i 4 (.mov (.t 22))]) .ret))))
theorem tr_infer_within : trCode Tryd.prog 23 [] (Tryd.f32.body.getD .skip) = some ir_infer_within := by kernel_rfl
theorem ac_infer_within {xs : List AV} {r : AV} (hn : xs.length ≤ 23) (h : ∀ C : Ctx, C.n = 23 → IWP Tryd.prog C [] ir_infer_within (FinQ [.t 4] r) (AS.start xs)) : ACalls Tryd.prog 32 xs r :=
  acalls_of Tryd.func32 rfl tr_infer_within rfl hn h
def ir_infer_check : IR :=
  (.seq (.ops [.i 1 (.box 33 (.t 0)), .i 2 (.mov (.n 0))]) (.seq (.block 0 (.seq (.ops [.i 7 (.fieldAddr 1 (.t 1)), .i 8 (.load false 1 (.t 7)), .i 9 (.len false (.t 8)), .i 10 (.bin .neq (.t 9) (.n 0)), .i 11 (.mov (.t 10)), .mk (some 12) (some (11, true)) (.fieldAddr 1 (.t 1)) .no, .mk (some 13) (some (11, true)) (.load false 1 (.t 12)) .no, .mk (some 14) (some (11, true)) (.len false (.t 13)) .no, .mk (some 15) (some (11, true)) (.bin .neq (.t 14) (.n 2)) .no, .i 16 (.pick (.t 11) (.t 15) (.c (.one (.st (.bool false))))), .i 17 (.mov (.t 16)), .mk (some 18) (some (17, false)) (.fieldAddr 1 (.t 1)) .no, .mk (some 19) (some (17, false)) (.load false 1 (.t 18)) .no, .mk (some 20) (some (17, false)) (.len false (.t 19)) .no, .mk (some 21) (some (17, false)) (.bin .eql (.t 20) (.n 2)) .no, .mk (some 22) (some (17, false)) (.mov (.t 21)) .no, .mk (some 23) (some (22, true)) (.fieldAddr 0 (.t 1)) .no, .mk (some 24) (some (22, true)) (.load false 1 (.t 23)) .no, .mk (some 25) (some (22, true)) (.bin .neq (.t 24) (.n 0)) .no, .mk (some 26) (some (17, false)) (.pick (.t 22) (.t 25) (.c (.one (.st (.bool false))))) .no, .i 27 (.pick (.t 17) (.c (.one (.st (.bool true)))) (.t 26)), .i 6 (.mov (.t 27))]) (.cond (.t 6) (.seq (.ops [.i 2 (.mov (.n 2))]) .ret) (.seq (.ops [.i 29 (.fieldAddr 0 (.t 1)), .i 30 (.load false 1 (.t 29)), .i 31 (.bin .lss (.t 30) (.n 0)), .i 32 (.mov (.t 31)), .mk (some 33) (some (32, false)) (.fieldAddr 0 (.t 1)) .no, .mk (some 34) (some (32, false)) (.load false 1 (.t 33)) .no, .mk (some 35) (some (32, false)) (.bin .gtr (.t 34) (.n 999)) .no, .i 36 (.pick (.t 32) (.c (.one (.st (.bool true)))) (.t 35)), .i 28 (.mov (.t 36))]) (.cond (.t 28) (.seq (.ops [.i 2 (.mov (.n 10))]) .ret) .skip))))) (.seq (.seq (.ops [.i 37 (.fieldAddr 1 (.t 1)), .i 38 (.load false 1 (.t 37)), .i 39 (.len false (.t 38)), .i 40 (.mov (.n 0))]) (.block 1 (.loop (.seq (.ops [.i 41 (.bin .lss (.t 40) (.t 39))]) (.seq (.cond (.t 41) .skip (.exit 1)) (.seq (.block 2 (.seq (.ops [.i 42 (.indexAddr 2 (.t 38) (.t 40)), .i 43 (.load true 2 (.t 42)), .i 4 (.alloc 33 [.st (.int .i64 0), .full []]), .mk none none (.store 2 (.t 4) (.t 43)) .no]) (.seq (.ops [.i 44 (.load true 2 (.t 4)), .i 45 (.call 33 [.t 44]), .i 5 (.mov (.t 45))]) (.seq (.ops [.i 46 (.mov (.t 5)), .i 47 (.bin .neq (.t 46) (.n 0))]) (.cond (.t 47) (.seq (.ops [.i 48 (.mov (.t 5)), .i 2 (.mov (.t 48))]) .ret) .skip))))) (.ops [.i 49 (.bin .add (.t 40) (.n 1)), .i 40 (.mov (.t 49))]))))))) (.seq (.ops [.i 2 (.mov (.n 0))]) .ret))))
theorem tr_infer_check : trCode Tryd.prog 50 [] (Tryd.f33.body.getD .skip) = some ir_infer_check := by kernel_rfl
theorem ac_infer_check {xs : List AV} {r : AV} (hn : xs.length ≤ 50) (h : ∀ C : Ctx, C.n = 50 → IWP Tryd.prog C [] ir_infer_check (FinQ [.t 2] r) (AS.start xs)) : ACalls Tryd.prog 33 xs r :=
  acalls_of Tryd.func33 rfl tr_infer_check rfl hn h
def ir_infer_Check : IR :=
  (.seq (.ops [.i 1 (.box 33 (.t 0)), .i 2 (.mov (.n 0))]) (.seq (.seq (.ops [.i 3 (.load true 2 (.t 1)), .i 4 (.call 32 [.t 3, .n 200]), .i 5 (.bin .lss (.t 4) (.n 0))]) (.cond (.t 5) (.seq (.ops [.i 2 (.mov (.n 3))]) .ret) .skip)) (.seq (.ops [.i 6 (.load true 2 (.t 1)), .i 7 (.call 33 [.t 6]), .i 2 (.mov (.t 7))]) .ret)))
theorem tr_infer_Check : trCode Tryd.prog 8 [] (Tryd.f18.body.getD .skip) = some ir_infer_Check := by kernel_rfl
theorem ac_infer_Check {xs : List AV} {r : AV} (hn : xs.length ≤ 8) (h : ∀ C : Ctx, C.n = 8 → IWP Tryd.prog C [] ir_infer_Check (FinQ [.t 2] r) (AS.start xs)) : ACalls Tryd.prog 18 xs r :=
  acalls_of Tryd.func18 rfl tr_infer_Check rfl hn h
def ir_infer_Text : IR :=
  (.seq (.ops [.i 1 (.box 33 (.t 0)), .i 2 (.mov (.c (.one (.st (.str (ByteArray.mk (#[]))))))), .i 3 (.mov (.n 0))]) (.seq (.seq (.ops [.i 5 (.load true 2 (.t 1)), .i 6 (.call 18 [.t 5]), .i 4 (.mov (.t 6))]) (.seq (.ops [.i 7 (.mov (.t 4)), .i 8 (.bin .neq (.t 7) (.n 0))]) (.cond (.t 8) (.seq (.ops [.i 9 (.mov (.t 4)), .i 2 (.mov (.c (.one (.st (.str (ByteArray.mk (#[]))))))), .i 3 (.mov (.t 9))]) .ret) .skip))) (.seq (.ops [.i 10 (.load true 2 (.t 1)), .i 11 (.call 19 [.t 10]), .i 2 (.mov (.t 11)), .i 3 (.mov (.n 0))]) .ret)))
theorem tr_infer_Text : trCode Tryd.prog 12 [] (Tryd.f10.body.getD .skip) = some ir_infer_Text := by kernel_rfl
theorem ac_infer_Text {xs : List AV} {r : AV} (hn : xs.length ≤ 12) (h : ∀ C : Ctx, C.n = 12 → IWP Tryd.prog C [] ir_infer_Text (FinQ [.t 2, .t 3] r) (AS.start xs)) : ACalls Tryd.prog 10 xs r :=
  acalls_of Tryd.func10 rfl tr_infer_Text rfl hn h
def ir_infer_Show : IR :=
  (.seq (.ops [.i 1 (.box 33 (.t 0)), .i 2 (.mov (.c (.one (.st (.str (ByteArray.mk (#[])))))))]) (.seq (.ops [.i 3 (.alloc 83 [.st (.lit (.pointer none)), .full []])]) (.seq (.ops [.i 4 (.load true 2 (.t 1)), .i 5 (.callS 34 [.t 3, .t 4])]) (.seq (.ops [.i 6 (.callS 35 [.t 3]), .i 2 (.mov (.t 6))]) .ret))))
theorem tr_infer_Show : trCode Tryd.prog 7 [5, 6] (Tryd.f19.body.getD .skip) = some ir_infer_Show := by kernel_rfl
theorem ac_infer_Show {xs : List AV} {r : AV} (hn : xs.length ≤ 7) (h : ∀ C : Ctx, C.n = 7 → IWP Tryd.prog C [5, 6] ir_infer_Show (FinQ [.t 2] r) (AS.start xs)) : ACalls Tryd.prog 19 xs r :=
  acalls_of Tryd.func19 rfl tr_infer_Show rfl hn h
def ir_infer_show : IR :=
  (.seq (.ops [.i 3 (.box 33 (.t 1))]) (.seq (.seq (.ops [.i 5 (.fieldAddr 1 (.t 3)), .i 6 (.load false 1 (.t 5)), .i 7 (.len false (.t 6)), .i 8 (.bin .eql (.t 7) (.n 0))]) (.cond (.t 8) (.seq (.ops [.i 9 (.mov (.t 0)), .i 10 (.fieldAddr 0 (.t 3)), .i 11 (.load false 1 (.t 10)), .i 12 (.call 39 [.t 11]), .i 13 (.bin .add (.c (.one (.st (.str (ByteArray.mk (#[97])))))) (.t 12)), .i 14 (.callS 44 [.t 9, .t 13])]) .ret) .skip)) (.seq (.seq (.ops [.i 15 (.fieldAddr 1 (.t 3)), .i 16 (.load false 1 (.t 15)), .i 17 (.indexAddr 2 (.t 16) (.n 0)), .i 18 (.load true 2 (.t 17)), .i 4 (.alloc 33 [.st (.int .i64 0), .full []]), .mk none none (.store 2 (.t 4) (.t 18)) .no]) (.seq (.ops [.i 19 (.fieldAddr 1 (.t 4)), .i 20 (.load false 1 (.t 19)), .i 21 (.len false (.t 20)), .i 22 (.bin .gtr (.t 21) (.n 0))]) (.cond (.t 22) (.seq (.ops [.i 23 (.mov (.t 0)), .i 24 (.callS 45 [.t 23, .c (.one (.st (.int .u8 40)))])]) (.seq (.ops [.i 25 (.mov (.t 0)), .i 26 (.load true 2 (.t 4)), .i 27 (.callS 34 [.t 25, .t 26])]) (.ops [.i 28 (.mov (.t 0)), .i 29 (.callS 45 [.t 28, .c (.one (.st (.int .u8 41)))])]))) (.ops [.i 30 (.mov (.t 0)), .i 31 (.load true 2 (.t 4)), .i 32 (.callS 34 [.t 30, .t 31])])))) (.seq (.ops [.i 33 (.mov (.t 0)), .i 34 (.callS 45 [.t 33, .c (.one (.st (.int .u8 62)))])]) (.ops [.i 35 (.mov (.t 0)), .i 36 (.fieldAddr 1 (.t 3)), .i 37 (.load false 1 (.t 36)), .i 38 (.indexAddr 2 (.t 37) (.n 1)), .i 39 (.load true 2 (.t 38)), .i 40 (.callS 34 [.t 35, .t 39])])))))
theorem tr_infer_show : trCode Tryd.prog 41 [14, 24, 27, 29, 32, 34, 40] (Tryd.f34.body.getD .skip) = some ir_infer_show := by kernel_rfl
theorem acS_infer_show {xs : List AV} {S S' : AStore} {r : AV} (hn : xs.length ≤ 41) (h : Clean S → ∀ C : Ctx, C.n = 41 → IWP Tryd.prog C [14, 24, 27, 29, 32, 34, 40] ir_infer_show (FinS C [] r S') (AS.startS xs S)) : ACallsS Tryd.prog 34 xs S r S' :=
  acallsS_of Tryd.func34 rfl tr_infer_show rfl hn h
def ir_infer_arrow : IR :=
  (.seq (.ops [.i 2 (.box 50 (.t 0)), .i 3 (.box 50 (.t 1)), .i 4 (.alloc 50 [.st (.str (ByteArray.mk (#[]))), .full []])]) (.seq (.ops [.i 5 (.load true 2 (.t 2)), .i 6 (.load true 2 (.t 3)), .i 7 (.buildSlice false 50 2 [.t 5, .t 6]), .i 8 (.build [.st (.str (ByteArray.mk (#[]))), .full []] [(0, 1, .c (.one (.st (.str (ByteArray.mk (#[102])))))), (1, 1, .t 7)]), .mk none none (.store 2 (.t 4) (.t 8)) .no]) .ret))
theorem tr_infer_arrow : trCode Tryd.prog 9 [] (Tryd.f26.body.getD .skip) = some ir_infer_arrow := by kernel_rfl
theorem ac_infer_arrow {xs : List AV} {r : AV} (hn : xs.length ≤ 9) (h : ∀ C : Ctx, C.n = 9 → IWP Tryd.prog C [] ir_infer_arrow (FinQ [.cell 4 true 2] r) (AS.start xs)) : ACalls Tryd.prog 26 xs r :=
  acalls_of Tryd.func26 rfl tr_infer_arrow rfl hn h
def ir_metaprune_infer_maker_fresh : IR :=
  (.seq (.ops [.i 2 (.alloc 50 [.st (.str (ByteArray.mk (#[]))), .full []])]) (.seq (.ops [.i 3 (.mov (.t 0)), .i 4 (.nilCheck (.t 3)), .i 5 (.fieldAddr 1 (.t 4)), .i 6 (.load false 1 (.t 5)), .i 7 (.bin .add (.t 6) (.n 1)), .i 8 (.nilCheck (.t 3)), .i 9 (.fieldAddr 1 (.t 8)), .mk none none (.store 1 (.t 9) (.t 7)) .no]) (.seq (.ops [.i 10 (.mov (.t 0)), .i 11 (.nilCheck (.t 10)), .i 12 (.fieldAddr 1 (.t 11)), .i 13 (.load false 1 (.t 12)), .i 14 (.call 39 [.t 13]), .i 15 (.bin .add (.c (.one (.st (.str (ByteArray.mk (#[84])))))) (.t 14)), .i 16 (.build [.st (.str (ByteArray.mk (#[]))), .full []] [(0, 1, .t 15)]), .mk none none (.store 2 (.t 2) (.t 16)) .no]) .ret)))
theorem tr_metaprune_infer_maker_fresh : trCode Tryd.prog 17 [] (Tryd.f25.body.getD .skip) = some ir_metaprune_infer_maker_fresh := by kernel_rfl
theorem acS_metaprune_infer_maker_fresh {xs : List AV} {S S' : AStore} {r : AV} (hn : xs.length ≤ 17) (h : Clean S → ∀ C : Ctx, C.n = 17 → IWP Tryd.prog C [] ir_metaprune_infer_maker_fresh (FinS C [.cell 2 true 2] r S') (AS.startS xs S)) : ACallsS Tryd.prog 25 xs S r S' :=
  acallsS_of Tryd.func25 rfl tr_metaprune_infer_maker_fresh rfl hn h
def ir_slices_Clone_metaprune_api_Term_metaprune_api_Term : IR :=
  (.seq (.ops [.i 2 (.mov (.c (.one (.full []))))]) (.seq (.seq (.ops [.i 3 (.mov (.t 0)), .i 4 (.eqN false (.t 3))]) (.cond (.t 4) (.seq (.ops [.i 2 (.mov (.c (.one (.full []))))]) .ret) .skip)) (.seq (.ops [.i 5 (.buildSlice false 50 2 []), .i 6 (.mov (.t 0)), .i 7 (.append false 50 2 40 (.t 5) (.t 6)), .i 2 (.mov (.t 7))]) .ret)))
theorem tr_slices_Clone_metaprune_api_Term_metaprune_api_Term : trCode Tryd.prog 8 [] (Tryd.f27.body.getD .skip) = some ir_slices_Clone_metaprune_api_Term_metaprune_api_Term := by kernel_rfl
theorem acS_slices_Clone_metaprune_api_Term_metaprune_api_Term {xs : List AV} {S S' : AStore} {r : AV} (hn : xs.length ≤ 8) (h : Clean S → ∀ C : Ctx, C.n = 8 → IWP Tryd.prog C [] ir_slices_Clone_metaprune_api_Term_metaprune_api_Term (FinS C [.t 2] r S') (AS.startS xs S)) : ACallsS Tryd.prog 27 xs S r S' :=
  acallsS_of Tryd.func27 rfl tr_slices_Clone_metaprune_api_Term_metaprune_api_Term rfl hn h
def ir_metaprune_infer_maker_of : IR :=
  (.seq (.ops [.i 4 (.box 25 (.t 1)), .i 6 (.alloc 50 [.st (.str (ByteArray.mk (#[]))), .full []])]) (.seq (.seq (.ops [.i 11 (.fieldAddr 0 (.t 4)), .i 12 (.load false 1 (.t 11))]) (.block 0 (.seq (.ops [.i 14 (.bin .eql (.t 12) (.n 1)), .i 13 (.mov (.t 14))]) (.cond (.t 13) (.seq (.ops [.i 15 (.mov (.t 2)), .i 16 (.mov (.t 2)), .i 17 (.len false (.t 16)), .i 18 (.bin .sub (.t 17) (.n 1)), .i 19 (.fieldAddr 1 (.t 4)), .i 20 (.load false 1 (.t 19)), .i 21 (.bin .sub (.t 18) (.t 20)), .i 22 (.indexAddr 2 (.t 15) (.t 21)), .i 23 (.load true 2 (.t 22)), .mk none none (.store 2 (.t 6) (.t 23)) .no]) .ret) (.seq (.ops [.i 25 (.bin .eql (.t 12) (.n 2)), .i 24 (.mov (.t 25))]) (.cond (.t 24) (.seq (.ops [.i 26 (.mov (.t 0)), .i 27 (.callS 25 [.t 26]), .i 7 (.alloc 50 [.st (.str (ByteArray.mk (#[]))), .full []]), .mk none none (.store 2 (.t 7) (.t 27)) .no]) (.seq (.ops [.mk (some 28) none (.load true 2 (.t 7)) (.onb 7), .i 29 (.mov (.t 0)), .mk (some 30) none (.fieldAddr 2 (.t 4)) (.onb 4), .mk (some 31) none (.load false 1 (.t 30)) (.onb 4), .i 32 (.indexL 3 (.t 31) (.n 0)), .i 33 (.loadL true 3 (.t 32)), .i 34 (.mov (.t 2)), .mk (some 35) none (.callN 27 [.t 34]) (.keeps [7]), .mk (some 36) none (.load true 2 (.t 7)) (.onb 7), .i 37 (.buildL 2 [.t 36]), .mk (some 38) none (.append false 50 2 40 (.t 35) (.t 37)) (.keeps [7, 4, 4]), .mk (some 39) none (.callS 14 [.t 29, .t 33, .t 38]) (.keeps [7]), .i 40 (.call 26 [.t 28, .t 39]), .mk none none (.store 2 (.t 6) (.t 40)) .no]) .ret)) .skip)))))) (.seq (.ops [.i 41 (.mov (.t 0)), .i 42 (.fieldAddr 2 (.t 4)), .i 43 (.load false 1 (.t 42)), .i 44 (.indexAddr 3 (.t 43) (.n 0)), .i 45 (.load true 3 (.t 44)), .i 46 (.mov (.t 2)), .i 47 (.callS 14 [.t 41, .t 45, .t 46]), .i 8 (.alloc 50 [.st (.str (ByteArray.mk (#[]))), .full []]), .mk none none (.store 2 (.t 8) (.t 47)) .no]) (.seq (.ops [.i 48 (.mov (.t 0)), .i 49 (.fieldAddr 2 (.t 4)), .i 50 (.load false 1 (.t 49)), .i 51 (.indexAddr 3 (.t 50) (.n 1)), .i 52 (.load true 3 (.t 51)), .i 53 (.mov (.t 2)), .i 54 (.callS 14 [.t 48, .t 52, .t 53]), .i 9 (.alloc 50 [.st (.str (ByteArray.mk (#[]))), .full []]), .mk none none (.store 2 (.t 9) (.t 54)) .no]) (.seq (.ops [.i 55 (.mov (.t 0)), .i 56 (.callS 25 [.t 55]), .i 10 (.alloc 50 [.st (.str (ByteArray.mk (#[]))), .full []]), .mk none none (.store 2 (.t 10) (.t 56)) .no]) (.seq (.ops [.i 57 (.mov (.t 0)), .i 58 (.mov (.t 0)), .i 59 (.nilCheck (.t 58)), .i 60 (.fieldAddr 0 (.t 59)), .i 61 (.load false 1 (.t 60)), .i 62 (.load true 2 (.t 8)), .i 63 (.load true 2 (.t 9)), .i 64 (.load true 2 (.t 10)), .i 65 (.call 26 [.t 63, .t 64]), .i 66 (.build [.st (.str (ByteArray.mk (#[]))), .full [], .st (.str (ByteArray.mk (#[]))), .full []] [(0, 2, .t 62), (2, 2, .t 65)]), .i 67 (.buildSlice false 68 4 [.t 66]), .i 68 (.append false 68 4 80 (.t 61) (.t 67)), .i 69 (.nilCheck (.t 57)), .i 70 (.fieldAddr 0 (.t 69)), .mk none none (.store 1 (.t 70) (.t 68)) .no]) (.seq (.ops [.i 71 (.load true 2 (.t 10)), .mk none none (.store 2 (.t 6) (.t 71)) .no]) .ret)))))))
theorem tr_metaprune_infer_maker_of : trCode Tryd.prog 72 [27, 20000035, 39, 47, 54, 56, 60000032, 60000033, 60000037] (Tryd.f14.body.getD .skip) = some ir_metaprune_infer_maker_of := by kernel_rfl
theorem acS_metaprune_infer_maker_of {xs : List AV} {S S' : AStore} {r : AV} (hn : xs.length ≤ 72) (h : Clean S → ∀ C : Ctx, C.n = 72 → IWP Tryd.prog C [27, 20000035, 39, 47, 54, 56, 60000032, 60000033, 60000037] ir_metaprune_infer_maker_of (FinS C [.cell 6 true 2] r S') (AS.startS xs S)) : ACallsS Tryd.prog 14 xs S r S' :=
  acallsS_of Tryd.func14 rfl tr_metaprune_infer_maker_of rfl hn h
def ir_slices_ContainsFunc_metaprune_api_Lam_metaprune_api_Lam : IR :=
  (.seq (.ops [.i 4 (.mov (.c (.one (.st (.bool false)))))]) (.seq (.ops [.i 5 (.mov (.t 0)), .i 6 (.mov (.t 1)), .i 7 (.call 38 [.t 5, .t 6]), .i 8 (.bin .geq (.t 7) (.n 0)), .i 4 (.mov (.t 8))]) .ret))
theorem tr_slices_ContainsFunc_metaprune_api_Lam_metaprune_api_Lam : trCode Tryd.prog 9 [] (Tryd.f23.body.getD .skip) = some ir_slices_ContainsFunc_metaprune_api_Lam_metaprune_api_Lam := by kernel_rfl
theorem ac_slices_ContainsFunc_metaprune_api_Lam_metaprune_api_Lam {xs : List AV} {r : AV} (hn : xs.length ≤ 9) (h : ∀ C : Ctx, C.n = 9 → IWP Tryd.prog C [] ir_slices_ContainsFunc_metaprune_api_Lam_metaprune_api_Lam (FinQ [.t 4] r) (AS.start xs)) : ACalls Tryd.prog 23 xs r :=
  acalls_of Tryd.func23 rfl tr_slices_ContainsFunc_metaprune_api_Lam_metaprune_api_Lam rfl hn h
def ir_slices_IndexFunc_metaprune_api_Lam_metaprune_api_Lam : IR :=
  (.seq (.ops [.i 4 (.mov (.n 0))]) (.seq (.seq (.ops [.i 6 (.mov (.t 0)), .i 7 (.len false (.t 6)), .i 8 (.mov (.n 0))]) (.block 0 (.loop (.seq (.ops [.i 9 (.bin .lss (.t 8) (.t 7))]) (.seq (.cond (.t 9) .skip (.exit 0)) (.seq (.block 1 (.seq (.ops [.i 10 (.mov (.t 8)), .i 5 (.mov (.t 10))]) (.seq (.ops [.i 11 (.mov (.t 1)), .i 12 (.mov (.t 0)), .i 13 (.mov (.t 5)), .i 14 (.indexAddr 3 (.t 12) (.t 13)), .i 15 (.load true 3 (.t 14)), .i 16 (.callV (.t 11) [.t 15])]) (.cond (.t 16) (.seq (.ops [.i 17 (.mov (.t 5)), .i 4 (.mov (.t 17))]) .ret) .skip)))) (.ops [.i 18 (.bin .add (.t 8) (.n 1)), .i 8 (.mov (.t 18))]))))))) (.seq (.ops [.i 4 (.mov (.c (.one (.st (.int .i64 (-1))))))]) .ret)))
theorem tr_slices_IndexFunc_metaprune_api_Lam_metaprune_api_Lam : trCode Tryd.prog 19 [] (Tryd.f38.body.getD .skip) = some ir_slices_IndexFunc_metaprune_api_Lam_metaprune_api_Lam := by kernel_rfl
theorem ac_slices_IndexFunc_metaprune_api_Lam_metaprune_api_Lam {xs : List AV} {r : AV} (hn : xs.length ≤ 19) (h : ∀ C : Ctx, C.n = 19 → IWP Tryd.prog C [] ir_slices_IndexFunc_metaprune_api_Lam_metaprune_api_Lam (FinQ [.t 4] r) (AS.start xs)) : ACalls Tryd.prog 38 xs r :=
  acalls_of Tryd.func38 rfl tr_slices_IndexFunc_metaprune_api_Lam_metaprune_api_Lam rfl hn h
def ir_infer_pure_1 : IR :=
  (.seq (.ops [.i 1 (.box 25 (.t 0)), .i 2 (.mov (.c (.one (.st (.bool false)))))]) (.seq (.ops [.i 3 (.load true 3 (.t 1)), .i 4 (.call 13 [.t 3]), .i 5 (.un .not (.t 4)), .i 2 (.mov (.t 5))]) .ret))
theorem tr_infer_pure_1 : trCode Tryd.prog 6 [] (Tryd.f24.body.getD .skip) = some ir_infer_pure_1 := by kernel_rfl
theorem ac_infer_pure_1 {xs : List AV} {r : AV} (hn : xs.length ≤ 6) (h : ∀ C : Ctx, C.n = 6 → IWP Tryd.prog C [] ir_infer_pure_1 (FinQ [.t 2] r) (AS.start xs)) : ACalls Tryd.prog 24 xs r :=
  acalls_of Tryd.func24 rfl tr_infer_pure_1 rfl hn h
def ir_infer_pure : IR :=
  (.seq (.ops [.i 1 (.box 25 (.t 0)), .i 2 (.mov (.c (.one (.st (.bool false)))))]) (.seq (.ops [.i 3 (.fieldAddr 0 (.t 1)), .i 4 (.load false 1 (.t 3)), .i 5 (.bin .neq (.t 4) (.n 4)), .i 6 (.mov (.t 5)), .mk (some 7) (some (6, true)) (.fieldAddr 2 (.t 1)) .no, .mk (some 8) (some (6, true)) (.load false 1 (.t 7)) .no, .mk (some 9) (some (6, true)) (.call 23 [.t 8, .c (.one (.fn 24 []))]) .no, .mk (some 10) (some (6, true)) (.un .not (.t 9)) .no, .i 11 (.pick (.t 6) (.t 10) (.c (.one (.st (.bool false))))), .i 2 (.mov (.t 11))]) .ret))
theorem tr_infer_pure : trCode Tryd.prog 12 [] (Tryd.f13.body.getD .skip) = some ir_infer_pure := by kernel_rfl
theorem ac_infer_pure {xs : List AV} {r : AV} (hn : xs.length ≤ 12) (h : ∀ C : Ctx, C.n = 12 → IWP Tryd.prog C [] ir_infer_pure (FinQ [.t 2] r) (AS.start xs)) : ACalls Tryd.prog 13 xs r :=
  acalls_of Tryd.func13 rfl tr_infer_pure rfl hn h
def ir_infer_Principal : IR :=
  (.seq (.ops [.i 1 (.box 25 (.t 0)), .i 2 (.alloc 33 [.st (.int .i64 0), .full []]), .i 3 (.mov (.n 0))]) (.seq (.seq (.ops [.i 12 (.load true 3 (.t 1)), .i 13 (.call 12 [.t 12, .n 0]), .i 4 (.mov (.t 13))]) (.seq (.ops [.i 14 (.mov (.t 4)), .i 15 (.bin .neq (.t 14) (.n 0))]) (.cond (.t 15) (.seq (.ops [.i 16 (.build [.st (.int .i64 0), .full []] []), .i 17 (.mov (.t 4)), .mk none none (.store 2 (.t 2) (.t 16)) .no, .i 3 (.mov (.t 17))]) .ret) .skip))) (.seq (.seq (.ops [.i 18 (.load true 3 (.t 1)), .i 19 (.call 13 [.t 18]), .i 20 (.un .not (.t 19))]) (.cond (.t 20) (.seq (.ops [.i 21 (.build [.st (.int .i64 0), .full []] []), .mk none none (.store 2 (.t 2) (.t 21)) .no, .i 3 (.mov (.n 15))]) .ret) .skip)) (.seq (.ops [.i 22 (.build [.full [], .st (.int .i64 0)] []), .i 23 (.box 47 (.t 22)), .i 5 (.mov (.t 23))]) (.seq (.ops [.i 24 (.mov (.t 5)), .i 25 (.load true 3 (.t 1)), .i 26 (.callS 14 [.t 24, .t 25, .c (.one (.full []))]), .i 6 (.alloc 50 [.st (.str (ByteArray.mk (#[]))), .full []]), .mk none none (.store 2 (.t 6) (.t 26)) .no]) (.seq (.ops [.i 28 (.mov (.t 5)), .i 29 (.nilCheck (.t 28)), .i 30 (.fieldAddr 0 (.t 29)), .i 31 (.load false 1 (.t 30)), .i 32 (.call 15 [.t 31]), .i 27 (.mov (.t 32)), .i 33 (.extract 0 (.t 27)), .i 34 (.extract 1 (.t 27)), .i 7 (.mov (.t 33)), .i 8 (.mov (.t 34))]) (.seq (.seq (.ops [.i 35 (.mov (.t 8)), .i 36 (.bin .eql (.t 35) (.n 6))]) (.cond (.t 36) (.ops [.i 8 (.mov (.n 11))]) .skip)) (.seq (.seq (.ops [.i 37 (.mov (.t 8)), .i 38 (.bin .neq (.t 37) (.n 0))]) (.cond (.t 38) (.seq (.ops [.i 39 (.build [.st (.int .i64 0), .full []] []), .i 40 (.mov (.t 8)), .mk none none (.store 2 (.t 2) (.t 39)) .no, .i 3 (.mov (.t 40))]) .ret) .skip)) (.seq (.ops [.i 42 (.mov (.t 7)), .i 43 (.load true 2 (.t 6)), .i 44 (.call 16 [.t 42, .t 43]), .i 41 (.mov (.t 44)), .i 45 (.extract 0 (.t 41)), .i 46 (.extract 1 (.t 41)), .i 9 (.alloc 50 [.st (.str (ByteArray.mk (#[]))), .full []]), .mk none none (.store 2 (.t 9) (.t 45)) .no, .i 10 (.mov (.t 46))]) (.seq (.seq (.ops [.i 47 (.mov (.t 10)), .i 48 (.un .not (.t 47))]) (.cond (.t 48) (.seq (.ops [.i 49 (.build [.st (.int .i64 0), .full []] []), .mk none none (.store 2 (.t 2) (.t 49)) .no, .i 3 (.mov (.n 8))]) .ret) .skip)) (.seq (.ops [.i 50 (.makeMap none), .i 11 (.mov (.t 50))]) (.seq (.ops [.i 51 (.load true 2 (.t 9)), .i 52 (.mov (.t 11)), .i 53 (.callS 17 [.t 51, .t 52]), .mk none none (.store 2 (.t 2) (.t 53)) .no, .i 3 (.mov (.n 0))]) .ret))))))))))))
theorem tr_infer_Principal : trCode Tryd.prog 54 [26, 53] (Tryd.f9.body.getD .skip) = some ir_infer_Principal := by kernel_rfl
theorem ac_infer_Principal {xs : List AV} {r : AV} (hn : xs.length ≤ 54) (h : ∀ C : Ctx, C.n = 54 → IWP Tryd.prog C [26, 53] ir_infer_Principal (FinQ [.cell 2 true 2, .t 3] r) (AS.start xs)) : ACalls Tryd.prog 9 xs r :=
  acalls_of Tryd.func9 rfl tr_infer_Principal rfl hn h
def ir_infer_back : IR :=
  (.seq (.ops [.i 2 (.box 50 (.t 0)), .i 4 (.alloc 33 [.st (.int .i64 0), .full []])]) (.seq (.seq (.ops [.i 8 (.fieldAddr 1 (.t 2)), .i 9 (.load false 1 (.t 8)), .i 10 (.len false (.t 9)), .i 11 (.bin .eql (.t 10) (.n 0))]) (.cond (.t 11) (.seq (.seq (.ops [.i 13 (.mov (.t 1)), .i 14 (.fieldAddr 0 (.t 2)), .i 15 (.load false 1 (.t 14)), .i 16 (.lookup none true (.one (.st (.int .i64 0))) (.t 13) (.t 15)), .i 12 (.mov (.t 16)), .i 17 (.extract 0 (.t 12)), .i 18 (.extract 1 (.t 12)), .i 5 (.mov (.t 17)), .i 6 (.mov (.t 18))]) (.seq (.ops [.i 19 (.mov (.t 6)), .i 20 (.un .not (.t 19))]) (.cond (.t 20) (.ops [.i 21 (.mov (.t 1)), .i 22 (.fieldAddr 0 (.t 2)), .i 23 (.load false 1 (.t 22)), .i 24 (.mov (.t 1)), .i 25 (.lenM (.t 24)), .mk none none (.mapSet none (.t 21) (.t 23) (.t 25)) .no]) .skip))) (.seq (.ops [.i 26 (.mov (.t 1)), .i 27 (.fieldAddr 0 (.t 2)), .i 28 (.load false 1 (.t 27)), .i 29 (.lookup none false (.one (.st (.int .i64 0))) (.t 26) (.t 28)), .i 30 (.build [.st (.int .i64 0), .full []] [(0, 1, .t 29)]), .mk none none (.store 2 (.t 4) (.t 30)) .no]) .ret)) .skip)) (.seq (.ops [.i 31 (.fieldAddr 1 (.t 2)), .i 32 (.load false 1 (.t 31)), .i 33 (.indexAddr 2 (.t 32) (.n 0)), .i 34 (.load true 2 (.t 33)), .i 35 (.mov (.t 1)), .i 36 (.callS 17 [.t 34, .t 35]), .i 7 (.alloc 33 [.st (.int .i64 0), .full []]), .mk none none (.store 2 (.t 7) (.t 36)) .no]) (.seq (.ops [.mk (some 37) none (.load true 2 (.t 7)) (.onb 7), .i 38 (.fieldAddr 1 (.t 2)), .i 39 (.load false 1 (.t 38)), .i 40 (.indexAddr 2 (.t 39) (.n 1)), .i 41 (.load true 2 (.t 40)), .i 42 (.mov (.t 1)), .mk (some 43) none (.callS 17 [.t 41, .t 42]) (.keeps [7]), .i 44 (.buildSlice false 33 2 [.t 37, .t 43]), .i 45 (.build [.st (.int .i64 0), .full []] [(1, 1, .t 44)]), .mk none none (.store 2 (.t 4) (.t 45)) .no]) .ret))))
theorem tr_infer_back : trCode Tryd.prog 46 [36, 43] (Tryd.f17.body.getD .skip) = some ir_infer_back := by kernel_rfl
theorem acS_infer_back {xs : List AV} {S S' : AStore} {r : AV} (hn : xs.length ≤ 46) (h : Clean S → ∀ C : Ctx, C.n = 46 → IWP Tryd.prog C [36, 43] ir_infer_back (FinS C [.cell 4 true 2] r S') (AS.startS xs S)) : ACallsS Tryd.prog 17 xs S r S' :=
  acallsS_of Tryd.func17 rfl tr_infer_back rfl hn h
end Go.Proofs.YtehnjhkndbcmgaaDoor

namespace Go.Proofs.YtehnjhkndbcmgaaDoor
open Go Go.RowKit
set_option linter.unusedVariables false
def letterI (n : Int) : Bool := decide (97 ≤ n ∧ n ≤ 122) || decide (65 ≤ n ∧ n ≤ 90) || decide (48 ≤ n ∧ n ≤ 57)
def byteAt (s : ByteArray) (k : Nat) : Int := ((s.data.toList.getD k 0).toNat : Int)
def isVar (s : ByteArray) : Bool := decide (0 < s.size) && decide (65 ≤ byteAt s 0) && decide (byteAt s 0 ≤ 90)
def lettersTo (s : ByteArray) (k : Nat) : Bool := (s.data.toList.take k).all fun c => letterI c.toNat
def nameOk (s : ByteArray) : Bool := decide (1 ≤ s.size) && decide (s.size ≤ 8) && !(decide (48 ≤ byteAt s 0) && decide (byteAt s 0 ≤ 57)) && lettersTo s s.size
mutual
def Tm.size : Tm → Nat
  | .mk _ xs => 1 + Tm.sizes xs
def Tm.sizes : List Tm → Nat
  | [] => 0
  | t :: ts => t.size + Tm.sizes ts
end
theorem Tm.sizes_append (xs ys : List Tm) : Tm.sizes (xs ++ ys) = Tm.sizes xs + Tm.sizes ys := by
  induction xs with
  | nil => simp [Tm.sizes]
  | cons t ts ih => simp only [List.cons_append, Tm.sizes, ih]; omega
theorem Tm.sizes_take {xs : List Tm} {k : Nat} {a : Tm} (h : xs[k]? = some a) : Tm.sizes (xs.take (k+1)) = Tm.sizes (xs.take k) + a.size := by
  rw [take_snoc h, Tm.sizes_append]; simp [Tm.sizes]
theorem Tm.sizes_take_le (xs : List Tm) (k : Nat)  : Tm.sizes (xs.take k) ≤ Tm.sizes xs := by
  have := Tm.sizes_append (xs.take k) (xs.drop k)
  rw [List.take_append_drop] at this
  omega
theorem Tm.size_eq (t : Tm) : t.size = 1 + Tm.sizes t.args := by cases t; rfl
theorem Tm.size_pos (t : Tm) : 1 ≤ t.size := by rw [Tm.size_eq]; omega
theorem Tm.size_mem {a : Tm} {xs : List Tm} (h : a ∈ xs) : a.size ≤ Tm.sizes xs := by
  induction xs with
  | nil => simp at h
  | cons t ts ih =>
    rcases List.mem_cons.1 h with rfl | h
    · simp only [Tm.sizes]; omega
    · have := ih h; simp only [Tm.sizes]; omega
theorem Tm.length_le (xs : List Tm) : xs.length ≤ Tm.sizes xs := by
  induction xs with
  | nil => simp [Tm.sizes]
  | cons t ts ih => have := Tm.size_pos t; simp only [Tm.sizes, List.length_cons]; omega
theorem Tm.lt_of_arg {a t : Tm} (h : a ∈ t.args) : SizeOf.sizeOf a < SizeOf.sizeOf t := by
  cases t
  exact Tm.lt_of_mem h
def lessBy (s : Nat) (m : Int) : Int := if m < s then -1 else m - s
mutual
def Tm.knots : Tm → List Tm
  | .mk n xs => .mk n xs :: Tm.knotsL xs
def Tm.knotsL : List Tm → List Tm
  | [] => []
  | t :: ts => t.knots ++ Tm.knotsL ts
end
theorem Tm.knots_eq (t : Tm) : t.knots = t :: Tm.knotsL t.args := by cases t; rfl
mutual
theorem Tm.knots_length : ∀ t : Tm, t.knots.length = t.size
  | .mk n xs => by simp only [Tm.knots, Tm.size, List.length_cons, Tm.knotsL_length xs]; omega
theorem Tm.knotsL_length : ∀ xs : List Tm, (Tm.knotsL xs).length = Tm.sizes xs
  | [] => rfl
  | t :: ts => by simp only [Tm.knotsL, Tm.sizes, List.length_append, Tm.knots_length t, Tm.knotsL_length ts]
end
def chkOne (t : Tm) : Int := if nameOk t.name = true then (if isVar t.name = true ∧ 0 < t.args.length then 2 else 0) else 1
mutual
def Tm.chk : Tm → Int
  | .mk n xs => if chkOne (.mk n xs) = 0 then Tm.chkL xs else chkOne (.mk n xs)
def Tm.chkL : List Tm → Int
  | [] => 0
  | t :: ts => if t.chk = 0 then Tm.chkL ts else t.chk
end
theorem Tm.chk_eq (t : Tm) : t.chk = if chkOne t = 0 then Tm.chkL t.args else chkOne t := by cases t; rfl
def Tm.may (t : Tm) : Int := if 200 < t.size then 3 else t.chk
def isIn (x : ByteArray) (l : List ByteArray) : Bool := l.any fun y => decide (y = x)
theorem isIn_iff {x : ByteArray} {l : List ByteArray} : isIn x l = true ↔ x ∈ l := by simp [isIn]
theorem isIn_no {x : ByteArray} {l : List ByteArray} : isIn x l = false ↔ x ∉ l := by rw [← Bool.not_eq_true, isIn_iff]
def addVar (l : List ByteArray) (n : ByteArray) : List ByteArray := if isVar n && !isIn n l then l ++ [n] else l
def addVars (l : List ByteArray) (ks : List Tm) : List ByteArray := ks.foldl (fun l t => addVar l t.name) l
theorem addVars_nil (l : List ByteArray) : addVars l [] = l := rfl
theorem addVars_append (l : List ByteArray) (ks ms : List Tm) : addVars l (ks ++ ms) = addVars (addVars l ks) ms := by simp [addVars]
theorem addVar_yes {l : List ByteArray} {n : ByteArray} (h : isVar n = true) (h' : isIn n l = false) : addVar l n = l ++ [n] := by simp [addVar, h, h']
theorem addVar_in {l : List ByteArray} {n : ByteArray} (h' : isIn n l = true) : addVar l n = l := by simp [addVar, h']
theorem addVar_no {l : List ByteArray} {n : ByteArray} (h : isVar n = false) : addVar l n = l := by simp [addVar, h]
theorem addVar_length (l : List ByteArray) (n : ByteArray) : (addVar l n).length ≤ l.length + 1 := by unfold addVar; split <;> simp
theorem addVars_length : ∀ (ks : List Tm) (l : List ByteArray), (addVars l ks).length ≤ l.length + ks.length
  | [], l => by simp [addVars_nil]
  | t :: ts, l => by
    have h1 := addVars_length ts (addVar l t.name)
    have h2 := addVar_length l t.name
    have h3 : addVars l (t :: ts) = addVars (addVar l t.name) ts := rfl
    rw [h3, List.length_cons]
    omega
mutual
def Tm.places : Tm → List (List Int)
  | .mk _ xs => [] :: Tm.placesFrom 0 xs
def Tm.placesFrom : Nat → List Tm → List (List Int)
  | _, [] => []
  | k, t :: ts => t.places.map (fun p => (k : Int) :: p) ++ Tm.placesFrom (k+1) ts
end
theorem lessBy_step {s z : Nat} {m : Int} (h : 0 ≤ lessBy s m) : lessBy z (lessBy s m) = lessBy (s + z) m := by
  unfold lessBy at *
  split at h
  · omega
  · rename_i h1
    rw [if_neg h1]
    split <;> split <;> omega
theorem lessBy_neg {s z : Nat} {m : Int} (h : lessBy s m < 0) (hz : s ≤ z) : lessBy s m = lessBy z m := by
  unfold lessBy at *
  split at h
  · rw [if_pos (by assumption), if_pos (by omega)]
  · omega
theorem lessBy_le (s : Nat) (m : Int) (h : 0 ≤ m) : -1 ≤ lessBy s m ∧ lessBy s m ≤ m := by unfold lessBy; split <;> omega
end Go.Proofs.YtehnjhkndbcmgaaDoor



namespace Go.Proofs.YtehnjhkndbcmgaaDoor
open Go Go.RowKit
set_option linter.unusedVariables false
theorem bl_irrefl : ∀ l : List UInt8, Op.bytesLess l l = false
  | [] => by simp [Op.bytesLess]
  | x :: xs => by simp [Op.bytesLess, bl_irrefl xs]
theorem bl_trans : ∀ (a b c : List UInt8), Op.bytesLess a b = true → Op.bytesLess b c = true → Op.bytesLess a c = true
  | _, [], _, h, _ => by simp [Op.bytesLess] at h
  | _, _ :: _, [], _, k => by simp [Op.bytesLess] at k
  | [], _ :: _, _ :: _, _, _ => by simp [Op.bytesLess]
  | x :: xs, y :: ys, z :: zs, h, k => by
    simp only [Op.bytesLess, Bool.or_eq_true, Bool.and_eq_true, decide_eq_true_eq, beq_iff_eq] at h k ⊢
    rcases h with h | ⟨rfl, h⟩
    · rcases k with k | ⟨rfl, k⟩
      · exact .inl (UInt8.lt_trans h k)
      · exact .inl h
    · rcases k with k | ⟨rfl, k⟩
      · exact .inl k
      · exact .inr ⟨rfl, bl_trans xs ys zs h k⟩
theorem bl_total : ∀ (a b : List UInt8), Op.bytesLess a b = true ∨ a = b ∨ Op.bytesLess b a = true
  | [], [] => .inr (.inl rfl)
  | [], _ :: _ => .inl (by simp [Op.bytesLess])
  | _ :: _, [] => .inr (.inr (by simp [Op.bytesLess]))
  | x :: xs, y :: ys => by
    simp only [Op.bytesLess, Bool.or_eq_true, Bool.and_eq_true, decide_eq_true_eq, beq_iff_eq, List.cons.injEq]
    rcases Nat.lt_trichotomy x.toNat y.toNat with h | h | h
    · exact .inl (.inl h)
    · have e : x = y := UInt8.toNat_inj.1 h
      subst e
      rcases bl_total xs ys with h | h | h
      · exact .inl (.inr ⟨rfl, h⟩)
      · exact .inr (.inl ⟨rfl, h⟩)
      · exact .inr (.inr (.inr ⟨rfl, h⟩))
    · exact .inr (.inr (.inl h))
theorem bytes_eq {a b : ByteArray} (h : a.toList = b.toList) : a = b := by
  rw [ByteArray.toList_eq, ByteArray.toList_eq] at h
  cases a; cases b
  simp only at h
  congr 1
  exact Array.toList_inj.1 h
theorem sLt_irrefl (a : ByteArray) : sLt a a = false := bl_irrefl _
theorem sLt_trans {a b c : ByteArray} (h : sLt a b = true) (k : sLt b c = true) : sLt a c = true := bl_trans _ _ _ h k
theorem sLt_total (a b : ByteArray) : sLt a b = true ∨ a = b ∨ sLt b a = true := by
  rcases bl_total a.toList b.toList with h | h | h
  · exact .inl h
  · exact .inr (.inl (bytes_eq h))
  · exact .inr (.inr h)
def cmpI (a b : ByteArray) : Int := if sLt a b = true then -1 else if a = b then 0 else 1
abbrev Bd := ByteArray × Tm
def encB (b : Bd) : List SV := [.str b.1, .str b.2.name, .list (b.2.args.map encT)]
abbrev aBds (l : List Bd) : AV := .one (.st (.list (l.map encB)))
abbrev aBd (b : Bd) : AV := .agg [.st (.str b.1), .st (.str b.2.name), .st (.list (b.2.args.map encT))]
instance : Lens encB 3 := ⟨fun _ => rfl⟩
theorem lens_encB {ts : List Bd} : ∀ x ∈ ts.map encB, x.length = 3 := by
  intro x hx
  obtain ⟨a, _, rfl⟩ := List.mem_map.1 hx
  rfl
theorem drop_get {α : Type} {xs : List α} {k : Nat} {a : α} (h : xs[k]? = some a) : xs.drop k = a :: xs.drop (k + 1) := by
  have hk := lt_of_get h
  rw [List.getElem?_eq_getElem hk] at h
  rw [List.drop_eq_getElem_cons hk]
  simp at h
  rw [h]
def Ordered (l : List Bd) : Prop := l.Pairwise fun a b => sLt a.1 b.1 = true
def lookup (l : List Bd) (n : ByteArray) : Option Tm := (l.find? fun b => decide (b.1 = n)).map (·.2)
theorem lookup_none {l : List Bd} {n : ByteArray} (h : ∀ b ∈ l, b.1 ≠ n) : lookup l n = none := by
  unfold lookup
  rw [List.find?_eq_none.2 (fun b hb => by simpa using h b hb)]
  rfl
theorem lookup_take {l : List Bd} {n : ByteArray} {k : Nat} {b : Bd} (hk : l[k]? = some b) (hb : b.1 = n) (h : ∀ c ∈ l.take k, c.1 ≠ n) : lookup l n = some b.2 := by
  unfold lookup
  rw [← List.take_append_drop k l, List.find?_append, List.find?_eq_none.2 (fun c hc => by simpa using h c hc), drop_get hk]
  simp [hb]
theorem lookup_mem {l : List Bd} {n : ByteArray} {x : Tm} (h : lookup l n = some x) : ∃ b ∈ l, b.1 = n ∧ b.2 = x := by
  unfold lookup at h
  rw [Option.map_eq_some_iff] at h
  obtain ⟨b, h1, h2⟩ := h
  exact ⟨b, List.mem_of_find?_eq_some h1, by simpa using List.find?_some h1, h2⟩
theorem ordered_get {l : List Bd} (h : Ordered l) {i j : Nat} {a b : Bd} (hi : l[i]? = some a) (hj : l[j]? = some b) (hij : i < j) : sLt a.1 b.1 = true := by
  have h1 := List.pairwise_iff_getElem.1 h
  obtain ⟨hi1, hi2⟩ := List.getElem?_eq_some_iff.1 hi
  obtain ⟨hj1, hj2⟩ := List.getElem?_eq_some_iff.1 hj
  have := h1 i j hi1 hj1 hij
  rw [hi2, hj2] at this
  exact this
mutual
def Tm.on (s : List Bd) : Tm → Tm
  | .mk n xs => match (if xs.isEmpty then lookup s n else none) with
    | some x => x
    | none => .mk n (Tm.onL s xs)
def Tm.onL (s : List Bd) : List Tm → List Tm
  | [] => []
  | t :: ts => t.on s :: Tm.onL s ts
end
theorem Tm.onL_eq (s : List Bd) : ∀ ts : List Tm, Tm.onL s ts = ts.map (Tm.on s)
  | [] => rfl
  | t :: ts => by rw [Tm.onL, Tm.onL_eq s ts]; rfl
theorem Tm.on_leaf {s : List Bd} {t x : Tm} (h : lookup s t.name = some x) (h0 : t.args = []) : t.on s = x := by
  cases t with
  | mk n xs =>
    simp only [Tm.name_mk, Tm.args_mk] at h h0
    subst h0
    simp [Tm.on, h]
theorem Tm.on_knot {s : List Bd} {t : Tm} (h : lookup s t.name = none ∨ t.args ≠ []) : t.on s = .mk t.name (t.args.map (Tm.on s)) := by
  cases t with
  | mk n xs =>
    simp only [Tm.name_mk, Tm.args_mk] at h ⊢
    rw [← Tm.onL_eq]
    rcases h with h | h
    · simp [Tm.on, h]
    · cases xs with
      | nil => exact absurd rfl h
      | cons y ys => simp [Tm.on]
theorem Tm.chk_args {t : Tm} (h : t.chk = 0) : (isVar t.name = true → t.args = []) ∧ ∀ a ∈ t.args, a.chk = 0 := by
  have hc := Tm.chk_eq t
  rw [h] at hc
  by_cases h1 : chkOne t = 0
  · rw [if_pos h1] at hc
    have key : ∀ {xs : List Tm}, Tm.chkL xs = 0 → ∀ a ∈ xs, a.chk = 0 := by
      intro xs
      induction xs with
      | nil => simp
      | cons x xs ih =>
        intro hx a ha
        simp only [Tm.chkL] at hx
        split at hx
        · rename_i h2
          rcases List.mem_cons.1 ha with rfl | ha
          · exact h2
          · exact ih hx a ha
        · rename_i h2
          exact absurd hx h2
    refine ⟨fun hv => ?_, key hc.symm⟩
    unfold chkOne at h1
    split at h1
    · split at h1
      · cases h1
      · rename_i h2
        simp only [hv, true_and, Nat.not_lt, Nat.le_zero] at h2
        exact List.eq_nil_of_length_eq_zero h2
    · cases h1
  · rw [if_neg h1] at hc
    exact absurd hc.symm h1
end Go.Proofs.YtehnjhkndbcmgaaDoor

namespace Go.Proofs.YtehnjhkndbcmgaaDoor
open Go Go.RowKit
set_option linter.unusedVariables false
def insB (b : Bd) : List Bd → List Bd
  | [] => [b]
  | c :: l => if sLt b.1 c.1 = true then b :: c :: l else c :: insB b l
def sortB (l : List Bd) : List Bd := l.foldl (fun acc b => insB b acc) []
def Named (l : List Bd) : Prop := (l.map (·.1)).Nodup
theorem insB_perm (b : Bd) : ∀ l : List Bd, (insB b l).Perm (b :: l)
  | [] => List.Perm.refl _
  | c :: l => by
    unfold insB
    split
    · exact List.Perm.refl _
    · exact ((insB_perm b l).cons c).trans (List.Perm.swap b c l)
theorem insB_ordered {b : Bd} : ∀ {l : List Bd}, Ordered l → (∀ c ∈ l, c.1 ≠ b.1) → Ordered (insB b l)
  | [], _, _ => List.pairwise_cons.2 ⟨by simp, List.Pairwise.nil⟩
  | c :: l, ho, hn => by
    obtain ⟨o1, o2⟩ := List.pairwise_cons.1 ho
    unfold insB
    split
    · rename_i h
      exact List.pairwise_cons.2 ⟨fun x hx => by
        rcases List.mem_cons.1 hx with rfl | hx
        · exact h
        · exact sLt_trans h (o1 x hx), ho⟩
    · rename_i h
      refine List.pairwise_cons.2 ⟨fun x hx => ?_, insB_ordered o2 fun x hx => hn x (by simp [hx])⟩
      rcases List.mem_cons.1 ((insB_perm b l).mem_iff.1 hx) with rfl | hx
      · rcases sLt_total c.1 x.1 with k | k | k
        · exact k
        · exact absurd k (hn c (by simp))
        · exact absurd k h
      · exact o1 x hx
theorem foldl_ins_perm : ∀ (l acc : List Bd), (l.foldl (fun acc b => insB b acc) acc).Perm (l ++ acc)
  | [], acc => List.Perm.refl _
  | b :: l, acc => by
    rw [List.foldl_cons]
    refine (foldl_ins_perm l _).trans ?_
    refine ((insB_perm b acc).append_left l).trans ?_
    exact List.perm_middle
theorem sortB_perm (l : List Bd) : (sortB l).Perm l := by
  have := foldl_ins_perm l []
  rw [List.append_nil] at this
  exact this
theorem foldl_ins_ordered : ∀ (l acc : List Bd), Ordered acc → Named (acc ++ l) → Ordered (l.foldl (fun acc b => insB b acc) acc)
  | [], acc, ho, _ => ho
  | b :: l, acc, ho, hn => by
    rw [List.foldl_cons]
    have hp : (acc ++ b :: l).Perm (insB b acc ++ l) := (List.perm_middle).trans (by rw [← List.cons_append]; exact ((insB_perm b acc).symm.append_right l))
    refine foldl_ins_ordered l _ (insB_ordered ho fun c hc e => ?_) ((hp.map _).nodup_iff.1 hn)
    unfold Named at hn
    rw [List.map_append, List.nodup_append] at hn
    exact hn.2.2 _ (List.mem_map.2 ⟨c, hc, rfl⟩) _ (by simp) e
theorem sortB_ordered {l : List Bd} (hn : Named l) : Ordered (sortB l) := foldl_ins_ordered l [] List.Pairwise.nil (by simpa using hn)
theorem ordered_named {l : List Bd} (ho : Ordered l) : Named l := by
  unfold Named
  rw [List.nodup_iff_pairwise_ne, List.pairwise_map]
  exact ho.imp fun {a b} h e => by rw [e, sLt_irrefl] at h; cases h
theorem ordered_unique : ∀ {l m : List Bd}, Ordered l → Ordered m → l.Perm m → l = m
  | [], m, _, _, h => (List.nil_perm.1 h).symm
  | a :: l, [], _, _, h => absurd h.length_eq (by simp)
  | a :: l, c :: m, hl, hm, h => by
    obtain ⟨l1, l2⟩ := List.pairwise_cons.1 hl
    obtain ⟨m1, m2⟩ := List.pairwise_cons.1 hm
    have e : a = c := by
      rcases List.mem_cons.1 (h.mem_iff.1 (List.mem_cons_self)) with e | e
      · exact e
      · rcases List.mem_cons.1 (h.mem_iff.2 (List.mem_cons_self)) with e2 | e2
        · exact e2.symm
        · have := sLt_trans (m1 a e) (l1 c e2)
          rw [sLt_irrefl] at this
          cases this
    subst e
    rw [ordered_unique l2 m2 (List.Perm.cons_inv h)]
theorem sortB_mem {l : List Bd} {b : Bd} : b ∈ sortB l ↔ b ∈ l := (sortB_perm l).mem_iff
theorem sortB_length (l : List Bd) : (sortB l).length = l.length := (sortB_perm l).length_eq
theorem named_perm {l m : List Bd} (h : l.Perm m) (hn : Named l) : Named m := ((h.map _).nodup_iff).1 hn
end Go.Proofs.YtehnjhkndbcmgaaDoor

namespace Go.Proofs.YtehnjhkndbcmgaaDoor
open Go Go.RowKit
set_option linter.unusedVariables false
end Go.Proofs.YtehnjhkndbcmgaaDoor

namespace Go.Proofs.YtehnjhkndbcmgaaDoor
open Go Go.RowKit
set_option linter.unusedVariables false
end Go.Proofs.YtehnjhkndbcmgaaDoor

namespace Go.Proofs.YtehnjhkndbcmgaaDoor
open Go Go.RowKit
set_option maxRecDepth 100000
def ir_term_Variable : IR :=
  (.seq (.ops [.i 2 (.mov (.c (.one (.st (.bool false)))))]) (.seq (.ops [.i 3 (.mov (.t 0)), .i 4 (.bin .neq (.t 3) (.c (.one (.st (.str (ByteArray.mk (#[]))))))), .i 5 (.mov (.t 4)), .mk (some 6) (some (5, true)) (.mov (.t 0)) .no, .mk (some 7) (some (5, true)) (.indexStr (.t 6) (.n 0)) .no, .mk (some 8) (some (5, true)) (.bin .geq (.t 7) (.c (.one (.st (.int .u8 65))))) .no, .i 9 (.pick (.t 5) (.t 8) (.c (.one (.st (.bool false))))), .i 10 (.mov (.t 9)), .mk (some 11) (some (10, true)) (.mov (.t 0)) .no, .mk (some 12) (some (10, true)) (.indexStr (.t 11) (.n 0)) .no, .mk (some 13) (some (10, true)) (.bin .leq (.t 12) (.c (.one (.st (.int .u8 90))))) .no, .i 14 (.pick (.t 10) (.t 13) (.c (.one (.st (.bool false))))), .i 2 (.mov (.t 14))]) .ret))
theorem tr_term_Variable : trCode Tryd.prog 15 [] (Tryd.f28.body.getD .skip) = some ir_term_Variable := by kernel_rfl
theorem ac_term_Variable {xs : List AV} {r : AV} (hn : xs.length ≤ 15) (h : ∀ C : Ctx, C.n = 15 → IWP Tryd.prog C [] ir_term_Variable (FinQ [.t 2] r) (AS.start xs)) : ACalls Tryd.prog 28 xs r :=
  acalls_of Tryd.func28 rfl tr_term_Variable rfl hn h
end Go.Proofs.YtehnjhkndbcmgaaDoor
