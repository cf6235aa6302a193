/-
  Part 9 of the texts: AbsU; PTerm; PSubst; PSort; PPair; PUnify; PThen; PCompose; PRobin; IrRawT. Conditions: none.
-/
import Derived.Test.YtohgkbgpcnmdpaaNon8
namespace Go.Proofs.Ytohgkbgpcnmdpaa
open Go Go.RowKit
set_option linter.unusedVariables false
def Kd.isCall : Kd → Bool
  | .call _ _ => true
  | .callS _ _ => true
  | .callV _ _ => true
  | .callN _ _ => true
  | .callR _ _ => true
  | .callW _ _ => true
  | .buildFlat _ => false
  | .cutP _ _ _ => false
  | .indexP _ _ _ => false
  | .appP _ _ _ _ _ => false
  | .restP _ _ _ => false
  | .clearP _ _ _ _ => false
  | .mov _ => false
  | .pick _ _ _ => false
  | .alloc _ _ => false
  | .box _ _ => false
  | .build _ _ => false
  | .buildSlice _ _ _ _ => false
  | .load _ _ _ => false
  | .store _ _ _ => false
  | .fieldAddr _ _ => false
  | .field _ _ _ _ => false
  | .indexAddr _ _ _ => false
  | .indexArr _ _ _ _ => false
  | .indexStr _ _ => false
  | .bin _ _ _ => false
  | .eqB _ _ _ => false
  | .eqN _ _ => false
  | .eqE _ _ => false
  | .never => false
  | .pan _ => false
  | .iface _ _ => false
  | .strOf _ => false
  | .un _ _ => false
  | .sliceS _ _ _ => false
  | .sliceL _ _ _ _ => false
  | .extract _ _ => false
  | .len _ _ => false
  | .append _ _ _ _ _ _ => false
  | .conv _ _ => false
  | .nilCheck _ => false
  | .mm _ _ _ => false
  | .makeSlice _ _ _ _ _ _ => false
  | .makeFunc _ _ => false
  | .makeMap _ => false
  | .lookup _ _ _ _ _ => false
  | .mapSet _ _ _ _ => false
  | .mapEntry _ _ _ _ => false
  | .entrySet _ _ _ => false
  | .rangeM _ => false
  | .next _ => false
  | .entry _ => false
  | .lenM _ => false
  | .buildArr _ => false
  | .makeMemo => false
  | .memoGet _ _ _ _ => false
  | .memoSet _ _ _ => false
inductive CallG (P : Program) (f : FuncId) (vs : List AV) (d : Option Nat) (l : List Ins) (s : AS) (K : AS → Prop) : Prop
  | mk (r : AV) (h1 : ACalls P f vs r) (h2 : Run P l (s.put d r) K)
inductive CallSG (P : Program) (f : FuncId) (vs : List AV) (S : AStore) (ks : List Nat) (d : Option Nat) (l : List Ins) (env : Nat → AV) (K : AS → Prop) : Prop
  | mk (r : AV) (S' : AStore) (h1 : ACallsS P f vs (upS S) r S') (h2 : (∀ k ∈ ks, dnS S' k = S k) ∧ Run P l ((⟨env, dnS S'⟩ : AS).put d (r.ren dn1)) K)
inductive CallNG (P : Program) (f : FuncId) (vs : List AV) (ks : List Nat) (d : Option Nat) (l : List Ins) (s : AS) (K : AS → Prop) : Prop
  | mk (mu : Bool) (e : TypeId) (w : Nat) (ys : List (List SV)) (h1 : ACallsN P f vs e w ys mu) (h2 : s.S (d.getD 0) = none ∧ (∀ k ∈ ks, (s.set (d.getD 0) (rowB mu e w ys)).S k = s.S k) ∧ Run P l ((s.set (d.getD 0) (rowB mu e w ys)).put d (.one (.row (d.getD 0) ys.length))) K)
inductive CallRG (P : Program) (f : FuncId) (vs : List AV) (d : Option Nat) (l : List Ins) (s : AS) (K : AS → Prop) : Prop
  | mk (r : AV) (rows : List (Nat × ABlk)) (h0 : ∀ q ∈ rows, s.S q.1 = some q.2) (h1 : ∀ T : AStore, (∀ q ∈ rows, T q.1 = some q.2) → ACallsS P f vs (upS T) r (upS T)) (h2 : Run P l (s.put d (r.ren dn1)) K)
inductive CallWG (P : Program) (f : FuncId) (vs : List AV) (ks : List Nat) (d : Option Nat) (l : List Ins) (s : AS) (K : AS → Prop) : Prop
  | mk (r : AV) (rows : List (Nat × ABlk × ABlk)) (h0 : holdS s.S rows) (h1 : ∀ T : AStore, holdS T rows → ACallsS P f vs (upS T) r (upS (turnS T rows))) (h2 : (∀ k ∈ ks, turnS s.S rows k = s.S k) ∧ Run P l ((⟨s.env, turnS s.S rows⟩ : AS).put d (r.ren dn1)) K)
theorem rows_one {S : AStore} {i : Nat} {b : ABlk} (h : S i = some b) : ∀ q ∈ [(i, b)], S q.1 = some q.2 := fun q hq => by rw [List.mem_singleton.1 hq]; exact h
def Kd.goC (P : Program) (d : Option Nat) (s : AS) (t : Tag) (l : List Ins) (K : AS → Prop) : Kd → Prop
  | .call f xs => match t with
    | .no => match outVs s.S (s.evs xs) with
      | some vs => CallG P f vs d l s K
      | none => False
    | _ => False
  | .callR f xs => match t with
    | .no => CallRG P f (AV.rens up1 (s.evs xs)) d l s K
    | _ => False
  | .callW f xs => match t with
    | .no => CallWG P f (AV.rens up1 (s.evs xs)) [] d l s K
    | .keeps ks => CallWG P f (AV.rens up1 (s.evs xs)) ks d l s K
    | .onb _ => False
  | .callN f xs => match t with
    | .no => match outVs s.S (s.evs xs) with
      | some vs => CallNG P f vs [] d l s K
      | none => False
    | .keeps ks => match outVs s.S (s.evs xs) with
      | some vs => CallNG P f vs ks d l s K
      | none => False
    | .onb _ => False
  | .callS f xs => match t with
    | .no => CallSG P f (AV.rens up1 (s.evs xs)) s.S [] d l s.env K
    | .keeps ks => CallSG P f (AV.rens up1 (s.evs xs)) s.S ks d l s.env K
    | .onb _ => False
  | .callV f xs => match s.ev f with
    | .one (.fn g caps) => plainF P g = true ∧ match t with
      | .no => CallSG P g (AV.rens up1 (s.evs xs ++ caps.map .one)) s.S [] d l s.env K
      | .keeps ks => CallSG P g (AV.rens up1 (s.evs xs ++ caps.map .one)) s.S ks d l s.env K
      | .onb _ => False
    | _ => False
  | _ => False
def Run2 (P : Program) : List Ins → AS → (AS → Prop) → Prop
  | [], s, K => K s
  | i :: l, s, K => match i.kd.isCall with
    | false => match i.guard with
      | none => i.kd.goT P (i.dst.getD 0) s i.tag fun v s' => Run2 P l (s'.put i.dst v) K
      | some (g, want) => match s.env g with
        | .one (.st (.bool b)) => (b = want → i.kd.goT P (i.dst.getD 0) s i.tag fun v s' => Run2 P l (s'.put i.dst v) K) ∧ (¬ b = want → Run2 P l (s.put i.dst (.tup [])) K)
        | .tup [] => Run2 P l (s.put i.dst (.tup [])) K
        | _ => False
    | true => match i.guard with
      | none => i.kd.goC P i.dst s i.tag l K
      | some (g, want) => match s.env g with
        | .one (.st (.bool b)) => (b = want → i.kd.goC P i.dst s i.tag l K) ∧ (¬ b = want → Run2 P l (s.put i.dst (.tup [])) K)
        | .tup [] => Run2 P l (s.put i.dst (.tup [])) K
        | _ => False
section
variable {P : Program}
theorem goC_run {kd : Kd} {d : Option Nat} {s : AS} {t : Tag} {l : List Ins} {K : AS → Prop} (h : kd.goC P d s t l K) : kd.goT P (d.getD 0) s t fun v s' => Run P l (s'.put d v) K := by
  cases kd <;> simp only [Kd.goC] at h
  case call f xs =>
    cases t <;> simp only at h
    split at h
    · rename_i vs e
      obtain ⟨r, h1, h2⟩ := h
      simp only [Kd.goT, Kd.go, e]
      exact ⟨r, h1, trivial, h2⟩
    · exact h.elim
  case callN f xs =>
    cases t <;> simp only at h
    · split at h
      · rename_i vs e
        obtain ⟨mu, ty, w, ys, h1, h2, _, h3⟩ := h
        simp only [Kd.goT, Kd.go, e]
        exact ⟨mu, ty, w, ys, h1, h2, trivial, h3⟩
      · exact h.elim
    · split at h
      · rename_i vs e
        obtain ⟨mu, ty, w, ys, h1, h2, h4, h3⟩ := h
        simp only [Kd.goT, Kd.go, e]
        exact ⟨mu, ty, w, ys, h1, h2, h4, h3⟩
      · exact h.elim
  case callW f xs =>
    cases t <;> simp only at h
    · obtain ⟨r, rows, h0, h1, _, h2⟩ := h
      simp only [Kd.goT, Kd.go]
      exact ⟨r, rows, h0, h1, trivial, h2⟩
    · obtain ⟨r, rows, h0, h1, hk, h2⟩ := h
      simp only [Kd.goT, Kd.go]
      exact ⟨r, rows, h0, h1, hk, h2⟩
  case callR f xs =>
    cases t <;> simp only at h
    obtain ⟨r, rows, h0, h1, h2⟩ := h
    simp only [Kd.goT, Kd.go]
    exact ⟨r, rows, h0, h1, trivial, h2⟩
  case callS f xs =>
    cases t <;> simp only at h
    · obtain ⟨r, S', h1, h2, h3⟩ := h
      exact ⟨r, S', h1, trivial, h3⟩
    · obtain ⟨r, S', h1, h2, h3⟩ := h
      exact ⟨r, S', h1, h2, h3⟩
  case callV f xs =>
    split at h
    · rename_i g caps e
      obtain ⟨hp, h⟩ := h
      cases t <;> simp only at h
      · obtain ⟨r, S', h1, h2, h3⟩ := h
        simp only [Kd.goT, Kd.go, e]
        exact ⟨hp, r, S', h1, trivial, h3⟩
      · obtain ⟨r, S', h1, h2, h3⟩ := h
        simp only [Kd.goT, Kd.go, e]
        exact ⟨hp, r, S', h1, h2, h3⟩
    · exact h.elim
theorem run2_run : ∀ {l : List Ins} {s : AS} {K : AS → Prop}, Run2 P l s K → Run P l s K
  | [], s, K, h => h
  | i :: l, s, K, h => by
    unfold Run2 at h
    unfold Run
    split at h
    · split at h
      · rename_i e
        simp only [e]
        exact goT_mono h fun v s' _ h' => run2_run h'
      · rename_i g want e
        simp only [e]
        split at h
        · rename_i b e2
          simp only [e2]
          exact ⟨fun hb => goT_mono (h.1 hb) fun v s' _ h' => run2_run h', fun hb => run2_run (h.2 hb)⟩
        · rename_i e2
          simp only [e2]
          exact run2_run h
        · exact h.elim
    · split at h
      · rename_i e
        simp only [e]
        exact goC_run h
      · rename_i g want e
        simp only [e]
        split at h
        · rename_i b e2
          simp only [e2]
          exact ⟨fun hb => goC_run (h.1 hb), fun hb => run2_run (h.2 hb)⟩
        · rename_i e2
          simp only [e2]
          exact run2_run h
        · exact h.elim
theorem keep_run2 {l : List Ins} {s : AS} {K : AS → Prop} {A : Prop} (h : A ∧ Run2 P l s K) : A ∧ Run P l s K := ⟨h.1, run2_run h.2⟩
theorem IWP.ops2 {C : Ctx} {mu : List Nat} {Q : AX → AS → Prop} {s : AS} {l : List Ins} (h : ∀ K : AS → Prop, (∀ s, Q .normal s → K s) → Run2 P l s K) : IWP P C mu (.ops l) Q s := IWP.opsK fun K hK => run2_run (h K hK)
end
attribute [go_sem] rowB turnS Run2 Kd.isCall Kd.goC Kd.goT Tag.ok Kd.ptrOpd ptrIs List.forall_mem_cons List.not_mem_nil Kd.go AS.ev AS.evs AS.put AS.set updE AV.cells fills elems stC stCs outC outCs outV outVs flats blkCells idxK listOf cutOf lenOfA binI binS optI pack splice ABlk.len AS.start AS.startS noS List.getElem?_cons_zero List.getElem?_cons_succ List.getElem?_nil List.getElem?_map Option.isSome_none Option.isSome_some Option.map_some Option.map_none Option.getD_some Option.getD_none List.length_map List.length_cons List.length_nil List.length_append List.map_cons List.map_nil List.take_succ_cons List.take_zero List.take_nil List.drop_succ_cons List.drop_zero List.drop_nil List.nil_append List.cons_append List.append_nil Nat.zero_add Nat.add_zero Nat.le_refl Nat.zero_le if_true if_false Bool.false_eq_true true_and and_true Option.some.injEq Int.toNat_natCast Int.natCast_nonneg Int.ofNat_eq_natCast ite_self decide_true decide_false not_true_eq_false not_false_eq_true true_implies false_implies implies_true Bool.true_eq_false eq_self Bool.not_true Bool.not_false beq_self_eq_true Tm.args_mk Tm.name_mk AV.rens AV.ren AC.ren AC.rens ABlk.ren upS_up dn_up dnS_upd dn_upS
abbrev Wa := @IWP.seq
abbrev Wb := @seqQ_normal
abbrev Wc := @IWP.block
abbrev Wd := @IWP.skip
abbrev We := @IWP.exit
abbrev Wf := @IWP.ret
abbrev Wg := @seqQ_exit
abbrev Wh := @seqQ_ret
abbrev Wi := @inBlock_normal
abbrev Wj := @inBlock_here
abbrev Wk := @inBlock_away
abbrev Wl := @inBlock_ret
abbrev Wm := @then_exit
abbrev Wn := @then_ret
abbrev Wo := @IWP.ops2
abbrev Wp := @IWP.cond
abbrev Wq := @run2_run
abbrev Wr := @keep_run2
theorem IWP.fresh {P : Program} {C : Ctx} {mu : List Nat} {x : IR} {Q : AX → AS → Prop} {s : AS} (h1000 : ∀ i, 1000 ≤ i → s.S i = none) (h : ∀ env' : Nat → AV, (∀ i v, s.env i = .one (.st v) → env' i = .one (.st v)) → IWP P C mu x Q ⟨env', noS⟩) : IWP P C mu x Q s := by
  refine IWP.ghost (Ghost.low (s := s) fun i b hi hb => by rw [h1000 i hi] at hb; cases hb) ?_
  have e : lowS s.S = noS := by
    funext i
    show (if i < 1000 then none else s.S i) = none
    split
    · rfl
    · exact h1000 i (by omega)
  rw [e]
  exact h _ fun i v hv => by rw [hv]; rfl
theorem IWP.mid {P : Program} {C : Ctx} {mu : List Nat} {x y : IR} {Q : AX → AS → Prop} {s : AS} (M : AS → Prop) (h1 : IWP P C mu x (fun e s => e = .normal ∧ M s) s) (h2 : ∀ s, M s → IWP P C mu y Q s) : IWP P C mu (x.seq y) Q s :=
  IWP.seq (h1.mono fun e s ⟨he, hm⟩ => by subst he; exact seqQ_normal (h2 s hm))
theorem once {R G : Prop} (f : R → G) (h : R) : G := f h
end Go.Proofs.Ytohgkbgpcnmdpaa



namespace Go.Proofs.Ytohgkbgpcnmdpaa
open Go Go.RowKit
set_option linter.unusedVariables false
theorem bl_irrefl : ∀ l : List UInt8, Op.bytesLess l l = false
  | [] => by simp [Op.bytesLess]
  | x :: xs => by simp [Op.bytesLess, bl_irrefl xs]
theorem bl_trans : ∀ (a b c : List UInt8), Op.bytesLess a b = true → Op.bytesLess b c = true → Op.bytesLess a c = true
  | _, [], _, h, _ => by simp [Op.bytesLess] at h
  | _, _ :: _, [], _, k => by simp [Op.bytesLess] at k
  | [], _ :: _, _ :: _, _, _ => by simp [Op.bytesLess]
  | x :: xs, y :: ys, z :: zs, h, k => by
    simp only [Op.bytesLess, Bool.or_eq_true, Bool.and_eq_true, decide_eq_true_eq, beq_iff_eq] at h k ⊢
    rcases h with h | ⟨rfl, h⟩
    · rcases k with k | ⟨rfl, k⟩
      · exact .inl (UInt8.lt_trans h k)
      · exact .inl h
    · rcases k with k | ⟨rfl, k⟩
      · exact .inl k
      · exact .inr ⟨rfl, bl_trans xs ys zs h k⟩
theorem bl_total : ∀ (a b : List UInt8), Op.bytesLess a b = true ∨ a = b ∨ Op.bytesLess b a = true
  | [], [] => .inr (.inl rfl)
  | [], _ :: _ => .inl (by simp [Op.bytesLess])
  | _ :: _, [] => .inr (.inr (by simp [Op.bytesLess]))
  | x :: xs, y :: ys => by
    simp only [Op.bytesLess, Bool.or_eq_true, Bool.and_eq_true, decide_eq_true_eq, beq_iff_eq, List.cons.injEq]
    rcases Nat.lt_trichotomy x.toNat y.toNat with h | h | h
    · exact .inl (.inl h)
    · have e : x = y := UInt8.toNat_inj.1 h
      subst e
      rcases bl_total xs ys with h | h | h
      · exact .inl (.inr ⟨rfl, h⟩)
      · exact .inr (.inl ⟨rfl, h⟩)
      · exact .inr (.inr (.inr ⟨rfl, h⟩))
    · exact .inr (.inr (.inl h))
theorem bytes_eq {a b : ByteArray} (h : a.toList = b.toList) : a = b := by
  rw [ByteArray.toList_eq, ByteArray.toList_eq] at h
  cases a; cases b
  simp only at h
  congr 1
  exact Array.toList_inj.1 h
theorem sLt_irrefl (a : ByteArray) : sLt a a = false := bl_irrefl _
theorem sLt_trans {a b c : ByteArray} (h : sLt a b = true) (k : sLt b c = true) : sLt a c = true := bl_trans _ _ _ h k
theorem sLt_total (a b : ByteArray) : sLt a b = true ∨ a = b ∨ sLt b a = true := by
  rcases bl_total a.toList b.toList with h | h | h
  · exact .inl h
  · exact .inr (.inl (bytes_eq h))
  · exact .inr (.inr h)
def cmpI (a b : ByteArray) : Int := if sLt a b = true then -1 else if a = b then 0 else 1
abbrev Bd := ByteArray × Tm
def encB (b : Bd) : List SV := [.str b.1, .str b.2.name, .list (b.2.args.map encT)]
abbrev aBds (l : List Bd) : AV := .one (.st (.list (l.map encB)))
abbrev aBd (b : Bd) : AV := .agg [.st (.str b.1), .st (.str b.2.name), .st (.list (b.2.args.map encT))]
theorem lens_encB {ts : List Bd} : ∀ x ∈ ts.map encB, x.length = 3 := by
  intro x hx
  obtain ⟨a, _, rfl⟩ := List.mem_map.1 hx
  rfl
theorem drop_get {α : Type} {xs : List α} {k : Nat} {a : α} (h : xs[k]? = some a) : xs.drop k = a :: xs.drop (k + 1) := by
  have hk := lt_of_get h
  rw [List.getElem?_eq_getElem hk] at h
  rw [List.drop_eq_getElem_cons hk]
  simp at h
  rw [h]
def Ordered (l : List Bd) : Prop := l.Pairwise fun a b => sLt a.1 b.1 = true
def lookup (l : List Bd) (n : ByteArray) : Option Tm := (l.find? fun b => decide (b.1 = n)).map (·.2)
theorem lookup_none {l : List Bd} {n : ByteArray} (h : ∀ b ∈ l, b.1 ≠ n) : lookup l n = none := by
  unfold lookup
  rw [List.find?_eq_none.2 (fun b hb => by simpa using h b hb)]
  rfl
theorem lookup_take {l : List Bd} {n : ByteArray} {k : Nat} {b : Bd} (hk : l[k]? = some b) (hb : b.1 = n) (h : ∀ c ∈ l.take k, c.1 ≠ n) : lookup l n = some b.2 := by
  unfold lookup
  rw [← List.take_append_drop k l, List.find?_append, List.find?_eq_none.2 (fun c hc => by simpa using h c hc), drop_get hk]
  simp [hb]
theorem lookup_mem {l : List Bd} {n : ByteArray} {x : Tm} (h : lookup l n = some x) : ∃ b ∈ l, b.1 = n ∧ b.2 = x := by
  unfold lookup at h
  rw [Option.map_eq_some_iff] at h
  obtain ⟨b, h1, h2⟩ := h
  exact ⟨b, List.mem_of_find?_eq_some h1, by simpa using List.find?_some h1, h2⟩
theorem ordered_get {l : List Bd} (h : Ordered l) {i j : Nat} {a b : Bd} (hi : l[i]? = some a) (hj : l[j]? = some b) (hij : i < j) : sLt a.1 b.1 = true := by
  have h1 := List.pairwise_iff_getElem.1 h
  obtain ⟨hi1, hi2⟩ := List.getElem?_eq_some_iff.1 hi
  obtain ⟨hj1, hj2⟩ := List.getElem?_eq_some_iff.1 hj
  have := h1 i j hi1 hj1 hij
  rw [hi2, hj2] at this
  exact this
mutual
def Tm.on (s : List Bd) : Tm → Tm
  | .mk n xs => match (if xs.isEmpty then lookup s n else none) with
    | some x => x
    | none => .mk n (Tm.onL s xs)
def Tm.onL (s : List Bd) : List Tm → List Tm
  | [] => []
  | t :: ts => t.on s :: Tm.onL s ts
end
theorem Tm.onL_eq (s : List Bd) : ∀ ts : List Tm, Tm.onL s ts = ts.map (Tm.on s)
  | [] => rfl
  | t :: ts => by rw [Tm.onL, Tm.onL_eq s ts]; rfl
theorem Tm.on_leaf {s : List Bd} {t x : Tm} (h : lookup s t.name = some x) (h0 : t.args = []) : t.on s = x := by
  cases t with
  | mk n xs =>
    simp only [Tm.name_mk, Tm.args_mk] at h h0
    subst h0
    simp [Tm.on, h]
theorem Tm.on_knot {s : List Bd} {t : Tm} (h : lookup s t.name = none ∨ t.args ≠ []) : t.on s = .mk t.name (t.args.map (Tm.on s)) := by
  cases t with
  | mk n xs =>
    simp only [Tm.name_mk, Tm.args_mk] at h ⊢
    rw [← Tm.onL_eq]
    rcases h with h | h
    · simp [Tm.on, h]
    · cases xs with
      | nil => exact absurd rfl h
      | cons y ys => simp [Tm.on]
theorem Tm.chk_args {t : Tm} (h : t.chk = 0) : (isVar t.name = true → t.args = []) ∧ ∀ a ∈ t.args, a.chk = 0 := by
  have hc := Tm.chk_eq t
  rw [h] at hc
  by_cases h1 : chkOne t = 0
  · rw [if_pos h1] at hc
    have key : ∀ {xs : List Tm}, Tm.chkL xs = 0 → ∀ a ∈ xs, a.chk = 0 := by
      intro xs
      induction xs with
      | nil => simp
      | cons x xs ih =>
        intro hx a ha
        simp only [Tm.chkL] at hx
        split at hx
        · rename_i h2
          rcases List.mem_cons.1 ha with rfl | ha
          · exact h2
          · exact ih hx a ha
        · rename_i h2
          exact absurd hx h2
    refine ⟨fun hv => ?_, key hc.symm⟩
    unfold chkOne at h1
    split at h1
    · split at h1
      · cases h1
      · rename_i h2
        simp only [hv, true_and, Nat.not_lt, Nat.le_zero] at h2
        exact List.eq_nil_of_length_eq_zero h2
    · cases h1
  · rw [if_neg h1] at hc
    exact absurd hc.symm h1
theorem Tm.may_chk {t : Tm} (h : t.may = 0) : t.chk = 0 ∧ t.size ≤ 200 := by
  unfold Tm.may at h
  split at h
  · cases h
  · exact ⟨h, by omega⟩
end Go.Proofs.Ytohgkbgpcnmdpaa

namespace Go.Proofs.Ytohgkbgpcnmdpaa
open Go Go.RowKit
set_option linter.unusedVariables false
def insB (b : Bd) : List Bd → List Bd
  | [] => [b]
  | c :: l => if sLt b.1 c.1 = true then b :: c :: l else c :: insB b l
def sortB (l : List Bd) : List Bd := l.foldl (fun acc b => insB b acc) []
def Named (l : List Bd) : Prop := (l.map (·.1)).Nodup
theorem insB_perm (b : Bd) : ∀ l : List Bd, (insB b l).Perm (b :: l)
  | [] => List.Perm.refl _
  | c :: l => by
    unfold insB
    split
    · exact List.Perm.refl _
    · exact ((insB_perm b l).cons c).trans (List.Perm.swap b c l)
theorem insB_ordered {b : Bd} : ∀ {l : List Bd}, Ordered l → (∀ c ∈ l, c.1 ≠ b.1) → Ordered (insB b l)
  | [], _, _ => List.pairwise_cons.2 ⟨by simp, List.Pairwise.nil⟩
  | c :: l, ho, hn => by
    obtain ⟨o1, o2⟩ := List.pairwise_cons.1 ho
    unfold insB
    split
    · rename_i h
      exact List.pairwise_cons.2 ⟨fun x hx => by
        rcases List.mem_cons.1 hx with rfl | hx
        · exact h
        · exact sLt_trans h (o1 x hx), ho⟩
    · rename_i h
      refine List.pairwise_cons.2 ⟨fun x hx => ?_, insB_ordered o2 fun x hx => hn x (by simp [hx])⟩
      rcases List.mem_cons.1 ((insB_perm b l).mem_iff.1 hx) with rfl | hx
      · rcases sLt_total c.1 x.1 with k | k | k
        · exact k
        · exact absurd k (hn c (by simp))
        · exact absurd k h
      · exact o1 x hx
theorem foldl_ins_perm : ∀ (l acc : List Bd), (l.foldl (fun acc b => insB b acc) acc).Perm (l ++ acc)
  | [], acc => List.Perm.refl _
  | b :: l, acc => by
    rw [List.foldl_cons]
    refine (foldl_ins_perm l _).trans ?_
    refine ((insB_perm b acc).append_left l).trans ?_
    exact List.perm_middle
theorem sortB_perm (l : List Bd) : (sortB l).Perm l := by
  have := foldl_ins_perm l []
  rw [List.append_nil] at this
  exact this
theorem foldl_ins_ordered : ∀ (l acc : List Bd), Ordered acc → Named (acc ++ l) → Ordered (l.foldl (fun acc b => insB b acc) acc)
  | [], acc, ho, _ => ho
  | b :: l, acc, ho, hn => by
    rw [List.foldl_cons]
    have hp : (acc ++ b :: l).Perm (insB b acc ++ l) := (List.perm_middle).trans (by rw [← List.cons_append]; exact ((insB_perm b acc).symm.append_right l))
    refine foldl_ins_ordered l _ (insB_ordered ho fun c hc e => ?_) ((hp.map _).nodup_iff.1 hn)
    unfold Named at hn
    rw [List.map_append, List.nodup_append] at hn
    exact hn.2.2 _ (List.mem_map.2 ⟨c, hc, rfl⟩) _ (by simp) e
theorem sortB_ordered {l : List Bd} (hn : Named l) : Ordered (sortB l) := foldl_ins_ordered l [] List.Pairwise.nil (by simpa using hn)
theorem ordered_named {l : List Bd} (ho : Ordered l) : Named l := by
  unfold Named
  rw [List.nodup_iff_pairwise_ne, List.pairwise_map]
  exact ho.imp fun {a b} h e => by rw [e, sLt_irrefl] at h; cases h
theorem ordered_unique : ∀ {l m : List Bd}, Ordered l → Ordered m → l.Perm m → l = m
  | [], m, _, _, h => (List.nil_perm.1 h).symm
  | a :: l, [], _, _, h => absurd h.length_eq (by simp)
  | a :: l, c :: m, hl, hm, h => by
    obtain ⟨l1, l2⟩ := List.pairwise_cons.1 hl
    obtain ⟨m1, m2⟩ := List.pairwise_cons.1 hm
    have e : a = c := by
      rcases List.mem_cons.1 (h.mem_iff.1 (List.mem_cons_self)) with e | e
      · exact e
      · rcases List.mem_cons.1 (h.mem_iff.2 (List.mem_cons_self)) with e2 | e2
        · exact e2.symm
        · have := sLt_trans (m1 a e) (l1 c e2)
          rw [sLt_irrefl] at this
          cases this
    subst e
    rw [ordered_unique l2 m2 (List.Perm.cons_inv h)]
theorem sortB_mem {l : List Bd} {b : Bd} : b ∈ sortB l ↔ b ∈ l := (sortB_perm l).mem_iff
theorem sortB_length (l : List Bd) : (sortB l).length = l.length := (sortB_perm l).length_eq
theorem named_perm {l m : List Bd} (h : l.Perm m) (hn : Named l) : Named m := ((h.map _).nodup_iff).1 hn
end Go.Proofs.Ytohgkbgpcnmdpaa

namespace Go.Proofs.Ytohgkbgpcnmdpaa
open Go Go.RowKit
set_option linter.unusedVariables false
abbrev Pr := Tm × Tm
def encP (p : Pr) : List SV := [.str p.1.name, .list (p.1.args.map encT), .str p.2.name, .list (p.2.args.map encT)]
abbrev aPrs (l : List Pr) : AV := .one (.st (.list (l.map encP)))
theorem lens_encP {ts : List Pr} : ∀ x ∈ ts.map encP, x.length = 4 := by
  intro x hx
  obtain ⟨a, _, rfl⟩ := List.mem_map.1 hx
  rfl
end Go.Proofs.Ytohgkbgpcnmdpaa

namespace Go.Proofs.Ytohgkbgpcnmdpaa
open Go Go.RowKit
set_option linter.unusedVariables false
def occ (x : ByteArray) (t : Tm) : Bool := t.knots.any fun k => decide (k.name = x)
theorem knotsL_any (p : Tm → Bool) : ∀ xs : List Tm, (Tm.knotsL xs).any p = xs.any fun t => t.knots.any p
  | [] => rfl
  | t :: ts => by rw [Tm.knotsL, List.any_append, knotsL_any p ts, List.any_cons]
theorem occ_eq (x : ByteArray) (t : Tm) : occ x t = (decide (t.name = x) || t.args.any (occ x)) := by
  unfold occ
  rw [Tm.knots_eq, List.any_cons, knotsL_any]
theorem occ_iff {x : ByteArray} {t : Tm} : occ x t = true ↔ t.name = x ∨ ∃ a ∈ t.args, occ x a = true := by
  rw [occ_eq, Bool.or_eq_true, decide_eq_true_eq, List.any_eq_true]
theorem occ_arg {x : ByteArray} {t a : Tm} (ha : a ∈ t.args) (h : occ x a = true) : occ x t = true := occ_iff.2 (.inr ⟨a, ha, h⟩)
theorem occ_no {x : ByteArray} {t : Tm} (h : occ x t = false) : t.name ≠ x ∧ ∀ a ∈ t.args, occ x a = false := by
  rw [occ_eq, Bool.or_eq_false_iff, decide_eq_false_iff_not, List.any_eq_false] at h
  exact ⟨h.1, fun a ha => by simpa using h.2 a ha⟩
def NoDom (s : List Bd) (t : Tm) : Prop := ∀ b ∈ s, occ b.1 t = false
theorem on_id {s : List Bd} {t : Tm} (h : NoDom s t) : t.on s = t := by
  induction hN : SizeOf.sizeOf t using Nat.strongRecOn generalizing t with
  | _ N ih =>
  subst hN
  have hl : lookup s t.name = none := lookup_none fun b hb e => (occ_no (h b hb)).1 e.symm
  rw [Tm.on_knot (.inl hl)]
  have hm : t.args.map (Tm.on s) = t.args := by
    conv => rhs; rw [← List.map_id t.args]
    exact List.map_congr_left fun a ha => ih _ (Tm.lt_of_arg ha) (fun b hb => (occ_no (h b hb)).2 a ha) rfl
  rw [hm]
  cases t; rfl
theorem lookup_dom {s : List Bd} {n : ByteArray} (h : lookup s n = none) : ∀ b ∈ s, b.1 ≠ n := by
  unfold lookup at h
  rw [Option.map_eq_none_iff, List.find?_eq_none] at h
  exact fun b hb e => h b hb (by simpa using e)
theorem occ_on {s : List Bd} (hv : ∀ b ∈ s, isVar b.1 = true) {t : Tm} (hc : t.chk = 0) {y : ByteArray} (h : occ y (t.on s) = true) : (occ y t = true ∧ ∀ b ∈ s, b.1 ≠ y) ∨ ∃ b ∈ s, occ y b.2 = true := by
  induction hN : SizeOf.sizeOf t using Nat.strongRecOn generalizing t with
  | _ N ih =>
  subst hN
  obtain ⟨c1, c2⟩ := Tm.chk_args hc
  cases hl : lookup s t.name with
  | some x =>
    obtain ⟨b, hb, hbn, hbx⟩ := lookup_mem hl
    rw [Tm.on_leaf hl (c1 (by rw [← hbn]; exact hv b hb)), ← hbx] at h
    exact .inr ⟨b, hb, h⟩
  | none =>
    rw [Tm.on_knot (.inl hl), occ_iff] at h
    rcases h with h | ⟨a, ha, h⟩
    · simp only [Tm.name_mk] at h
      refine .inl ⟨occ_iff.2 (.inl h), fun b hb => ?_⟩
      rw [← h]
      exact lookup_dom hl b hb
    · simp only [Tm.args_mk, List.mem_map] at ha
      obtain ⟨c, hc', rfl⟩ := ha
      rcases ih _ (Tm.lt_of_arg hc') (c2 c hc') h rfl with h | h
      · exact .inl ⟨occ_arg hc' h.1, h.2⟩
      · exact .inr h
theorem chk_mk {t : Tm} (h : chkOne t = 0) (ha : ∀ a ∈ t.args, a.chk = 0) : t.chk = 0 := by
  rw [Tm.chk_eq, if_pos h]
  have key : ∀ {xs : List Tm}, (∀ a ∈ xs, a.chk = 0) → Tm.chkL xs = 0 := by
    intro xs
    induction xs with
    | nil => intro _; rfl
    | cons x xs ih => intro hx; simp only [Tm.chkL]; rw [if_pos (hx x (by simp))]; exact ih fun a ha => hx a (by simp [ha])
  exact key ha
theorem chk_one {t : Tm} (h : t.chk = 0) : chkOne t = 0 := by
  rw [Tm.chk_eq] at h
  by_cases h1 : chkOne t = 0
  · exact h1
  · rw [if_neg h1] at h; exact h
theorem chk_on {s : List Bd} (hs : ∀ b ∈ s, b.2.chk = 0) {t : Tm} (hc : t.chk = 0) : (t.on s).chk = 0 := by
  induction hN : SizeOf.sizeOf t using Nat.strongRecOn generalizing t with
  | _ N ih =>
  subst hN
  obtain ⟨c1, c2⟩ := Tm.chk_args hc
  by_cases hleaf : (∃ x, lookup s t.name = some x) ∧ t.args = []
  · obtain ⟨⟨x, hx⟩, h0⟩ := hleaf
    rw [Tm.on_leaf hx h0]
    obtain ⟨b, hb, _, rfl⟩ := lookup_mem hx
    exact hs b hb
  · have hon : t.on s = .mk t.name (t.args.map (Tm.on s)) := Tm.on_knot (by
      cases hl : lookup s t.name with
      | none => exact .inl rfl
      | some x => exact .inr fun h0 => hleaf ⟨⟨x, hl⟩, h0⟩)
    rw [hon]
    refine chk_mk ?_ fun a ha => ?_
    · have := chk_one hc
      unfold chkOne at this ⊢
      simpa only [Tm.name_mk, Tm.args_mk, List.length_map] using this
    · simp only [Tm.args_mk, List.mem_map] at ha
      obtain ⟨c, hc', rfl⟩ := ha
      exact ih _ (Tm.lt_of_arg hc') (c2 c hc') rfl
inductive UOut where
  | err (e : Int)
  | go (s : List Bd) (ps : List Pr)
def bindV (s : List Bd) (x : ByteArray) (t : Tm) : UOut :=
  if occ x t = true then .err 6 else if (s.all fun b => decide ((b.2.on [(x, t)]).size ≤ 2000)) = true then .go (sortB (s.map (fun b => (b.1, b.2.on [(x, t)])) ++ [(x, t)])) [] else .err 8
def stepU (s : List Bd) (p : Pr) : UOut :=
  if 2000 < (p.1.on s).size ∨ 2000 < (p.2.on s).size then .err 8
  else if isVar (p.1.on s).name = true ∧ (p.1.on s).name = (p.2.on s).name then .go s []
  else if isVar (p.1.on s).name = true then bindV s (p.1.on s).name (p.2.on s)
  else if isVar (p.2.on s).name = true then bindV s (p.2.on s).name (p.1.on s)
  else if (p.1.on s).name = (p.2.on s).name ∧ (p.1.on s).args.length = (p.2.on s).args.length then .go s ((p.1.on s).args.zip (p.2.on s).args)
  else .err 5
inductive UEnds : Nat → List Bd → List Pr → List Bd × Int → Prop
  | nil {s} : UEnds 0 s [] (s, 0)
  | err {s p l e} : stepU s p = .err e → UEnds 1 s (p :: l) ([], e)
  | go {s p l s' ps n r} : stepU s p = .go s' ps → UEnds n s' (ps ++ l) r → UEnds (n + 1) s (p :: l) r
def Fits (C v : Nat) (s : List Bd) : List Pr → Prop
  | [] => True
  | p :: l => l.length + 2000 * min (p.1.on s).size 2000 + 4000000 * v ≤ C ∧ Fits C v s l
theorem Fits.less {C v v' : Nat} {s s' : List Bd} (hv : v' + 1 ≤ v) : ∀ {l : List Pr}, Fits C v s l → Fits C v' s' l
  | [], _ => trivial
  | p :: l, h => ⟨by have := h.1; have := Nat.min_le_right (p.1.on s').size 2000; omega, Fits.less hv h.2⟩
theorem Fits.more {C v m : Nat} {s : List Bd} {l : List Pr} (hm : m + 1 ≤ 2000) (hC : l.length + 2000 * (m + 1) + 4000000 * v ≤ C) (hl : Fits C v s l) : ∀ {ps : List Pr}, ps.length ≤ 2000 → (∀ c ∈ ps, (c.1.on s).size ≤ m) → Fits C v s (ps ++ l)
  | [], _, _ => hl
  | c :: ps, h1, h2 => by
    refine ⟨?_, Fits.more hm hC hl (by simp at h1; omega) fun c hc => h2 c (by simp [hc])⟩
    have h3 := h2 c (by simp)
    have h4 := Nat.min_le_left (c.1.on s).size 2000
    simp only [List.length_cons] at h1
    have e : (ps ++ l).length = ps.length + l.length := List.length_append
    show (ps ++ l).length + _ + _ ≤ C
    omega
structure UGood (U : List ByteArray) (C : Nat) (s : List Bd) (l : List Pr) : Prop where
  ord : Ordered s
  var : ∀ b ∈ s, isVar b.1 = true
  inU : ∀ b ∈ s, b.1 ∈ U
  chk : ∀ b ∈ s, b.2.chk = 0
  siz : ∀ b ∈ s, b.2.size ≤ 2000
  idem : ∀ b ∈ s, NoDom s b.2
  ranU : ∀ b ∈ s, ∀ y, occ y b.2 = true → y ∈ U
  lchk : ∀ p ∈ l, p.1.chk = 0 ∧ p.2.chk = 0
  lU : ∀ p ∈ l, ∀ y, (occ y p.1 = true → y ∈ U) ∧ (occ y p.2 = true → y ∈ U)
  lsiz : ∀ p ∈ l, p.1.size ≤ 2000 ∧ p.2.size ≤ 2000
  fits : Fits C (U.length - s.length) s l
theorem filter_less {x : ByteArray} : ∀ {m : List ByteArray}, x ∈ m → (m.filter fun y => !decide (y = x)).length + 1 ≤ m.length
  | y :: m, h => by
    have hle := List.length_filter_le (fun y => !decide (y = x)) m
    by_cases e : y = x
    · rw [List.filter_cons_of_neg (by simp [e]), List.length_cons]
      omega
    · rw [List.filter_cons_of_pos (by simp [e]), List.length_cons, List.length_cons]
      have := filter_less (x := x) (m := m) ((List.mem_cons.1 h).resolve_left fun h => e h.symm)
      omega
theorem nodup_sub : ∀ {l m : List ByteArray}, l.Nodup → (∀ x ∈ l, x ∈ m) → l.length ≤ m.length
  | [], m, _, _ => Nat.zero_le _
  | x :: l, m, hn, hs => by
    obtain ⟨n1, n2⟩ := List.nodup_cons.1 hn
    have h1 := nodup_sub (m := m.filter fun y => !decide (y = x)) n2 fun y hy => List.mem_filter.2 ⟨hs y (by simp [hy]), by
      have : y ≠ x := fun e => n1 (by rw [← e]; exact hy)
      simp [this]⟩
    have := filter_less (hs x (by simp))
    rw [List.length_cons]
    omega
theorem UGood.len {U : List ByteArray} {C : Nat} {s : List Bd} {l : List Pr} (h : UGood U C s l) : s.length ≤ U.length := by
  have := nodup_sub (l := s.map (fun b : Bd => b.1)) (m := U) (ordered_named h.ord) fun x hx => by
    obtain ⟨b, hb, rfl⟩ := List.mem_map.1 hx
    exact h.inU b hb
  simpa using this
theorem UGood.stack {U : List ByteArray} {C : Nat} {s : List Bd} {l : List Pr} (h : UGood U C s l) : l.length ≤ C + 1 := by
  cases l with
  | nil => simp
  | cons p l => have := h.fits.1; simp; omega
def sumL (s : List Bd) : List Pr → Nat
  | [] => 0
  | p :: l => (p.1.on s).size + sumL s l
theorem sumL_append (s : List Bd) : ∀ (ps l : List Pr), sumL s (ps ++ l) = sumL s ps + sumL s l
  | [], l => by simp [sumL]
  | p :: ps, l => by rw [List.cons_append, sumL, sumL_append s ps l, sumL]; omega
theorem zip_mem {α β : Type} {xs : List α} {ys : List β} {c : α × β} (h : c ∈ xs.zip ys) : c.1 ∈ xs ∧ c.2 ∈ ys := by
  obtain ⟨a, b⟩ := c
  exact ⟨(List.of_mem_zip h).1, (List.of_mem_zip h).2⟩
theorem UGood.tail {U : List ByteArray} {C : Nat} {s : List Bd} {p : Pr} {l : List Pr} (h : UGood U C s (p :: l)) : UGood U C s l :=
  { h with lchk := fun q hq => h.lchk q (by simp [hq]), lU := fun q hq => h.lU q (by simp [hq]), lsiz := fun q hq => h.lsiz q (by simp [hq]), fits := h.fits.2 }
theorem onU {U : List ByteArray} {C : Nat} {s : List Bd} {l : List Pr} (h : UGood U C s l) {t : Tm} (hc : t.chk = 0) (hU : ∀ y, occ y t = true → y ∈ U) : (t.on s).chk = 0 ∧ NoDom s (t.on s) ∧ ∀ y, occ y (t.on s) = true → y ∈ U := by
  refine ⟨chk_on h.chk hc, fun b hb => ?_, fun y hy => ?_⟩
  · cases ho : occ b.1 (t.on s) with
    | false => rfl
    | true =>
      rcases occ_on h.var hc ho with ⟨_, k⟩ | ⟨c, hc', k⟩
      · exact absurd rfl (k b hb)
      · rw [h.idem c hc' b hb] at k; cases k
  · rcases occ_on h.var hc hy with ⟨k, _⟩ | ⟨c, hc', k⟩
    · exact hU y k
    · exact h.ranU c hc' y k
theorem bindV_good {U : List ByteArray} {C : Nat} {s : List Bd} {l : List Pr} (h : UGood U C s l) {x : ByteArray} {t : Tm} (hx : isVar x = true) (hxU : x ∈ U) (hxs : ∀ b ∈ s, b.1 ≠ x) (htc : t.chk = 0) (hts : t.size ≤ 2000) (htn : NoDom s t) (htU : ∀ y, occ y t = true → y ∈ U) {s' : List Bd} {ps : List Pr} (hb : bindV s x t = .go s' ps) :
    ps = [] ∧ UGood U C s' l ∧ s.length < s'.length := by
  unfold bindV at hb
  split at hb
  · cases hb
  rename_i ho
  have ho : occ x t = false := by simpa using ho
  split at hb
  · rename_i hall
    cases hb
    have hone : ∀ b ∈ [(x, t)], isVar b.1 = true := by simp [hx]
    have honec : ∀ b ∈ ([(x, t)] : List Bd), b.2.chk = 0 := by simp [htc]
    have hmem : ∀ b, b ∈ s.map (fun b => (b.1, b.2.on [(x, t)])) ++ [(x, t)] ↔ (∃ c ∈ s, b = (c.1, c.2.on [(x, t)])) ∨ b = (x, t) := fun b => by
      simp only [List.mem_append, List.mem_map, List.mem_singleton]
      constructor
      · rintro (⟨c, hc, rfl⟩ | h)
        · exact .inl ⟨c, hc, rfl⟩
        · exact .inr h
      · rintro (⟨c, hc, rfl⟩ | h)
        · exact .inl ⟨c, hc, rfl⟩
        · exact .inr h
    have hnamed : Named (s.map (fun b => (b.1, b.2.on [(x, t)])) ++ [(x, t)]) := by
      have := ordered_named h.ord
      unfold Named at this ⊢
      rw [List.map_append, List.map_map, List.nodup_append]
      refine ⟨this, by simp, fun a ha b hb e => ?_⟩
      obtain ⟨c, hc, rfl⟩ := List.mem_map.1 ha
      simp only [List.map_cons, List.map_nil, List.mem_singleton] at hb
      exact hxs c hc (e.trans hb)
    have hoccr : ∀ c ∈ s, ∀ y, occ y (c.2.on [(x, t)]) = true → (occ y c.2 = true ∧ x ≠ y) ∨ occ y t = true := fun c hc y hy => by
      rcases occ_on hone (h.chk c hc) hy with ⟨k1, k2⟩ | ⟨b, hb, k⟩
      · exact .inl ⟨k1, k2 (x, t) (by simp)⟩
      · rw [List.mem_singleton] at hb
        subst hb
        exact .inr k
    have hfree : ∀ b ∈ s.map (fun b => (b.1, b.2.on [(x, t)])) ++ [(x, t)], ∀ c ∈ s.map (fun b => (b.1, b.2.on [(x, t)])) ++ [(x, t)], occ c.1 b.2 = false := fun b hb c hc => by
      cases hoc : occ c.1 b.2 with
      | false => rfl
      | true =>
        exfalso
        rcases (hmem b).1 hb with ⟨b', hb', rfl⟩ | rfl
        · rcases hoccr b' hb' _ hoc with ⟨k1, k2⟩ | k
          · rcases (hmem c).1 hc with ⟨c', hc', rfl⟩ | rfl
            · have := h.idem b' hb' c' hc'
              rw [k1] at this
              cases this
            · exact k2 rfl
          · rcases (hmem c).1 hc with ⟨c', hc', rfl⟩ | rfl
            · have := htn c' hc'
              rw [k] at this
              cases this
            · rw [k] at ho; cases ho
        · rcases (hmem c).1 hc with ⟨c', hc', rfl⟩ | rfl
          · have := htn c' hc'
            rw [hoc] at this
            cases this
          · rw [hoc] at ho; cases ho
    have hlen : (sortB (s.map (fun b => (b.1, b.2.on [(x, t)])) ++ [(x, t)])).length = s.length + 1 := by rw [sortB_length]; simp
    have hinU : ∀ b ∈ sortB (s.map (fun b => (b.1, b.2.on [(x, t)])) ++ [(x, t)]), b.1 ∈ U := fun b hb => by
      rcases (hmem b).1 (sortB_mem.1 hb) with ⟨c, hc, rfl⟩ | rfl
      · exact h.inU c hc
      · exact hxU
    have hle : s.length + 1 ≤ U.length := by
      have := nodup_sub (l := (sortB (s.map (fun b => (b.1, b.2.on [(x, t)])) ++ [(x, t)])).map (fun b : Bd => b.1)) (m := U) (ordered_named (sortB_ordered hnamed)) fun y hy => by
        obtain ⟨b, hb, rfl⟩ := List.mem_map.1 hy
        exact hinU b hb
      rw [List.length_map, hlen] at this
      exact this
    refine ⟨rfl, ⟨sortB_ordered hnamed, fun b hb => ?_, hinU, fun b hb => ?_, fun b hb => ?_, fun b hb c hc => hfree b (sortB_mem.1 hb) c (sortB_mem.1 hc), fun b hb y hy => ?_, h.lchk, h.lU, h.lsiz, Fits.less (by rw [hlen]; omega) h.fits⟩, by rw [hlen]; omega⟩
    · rcases (hmem b).1 (sortB_mem.1 hb) with ⟨c, hc, rfl⟩ | rfl
      · exact h.var c hc
      · exact hx
    · rcases (hmem b).1 (sortB_mem.1 hb) with ⟨c, hc, rfl⟩ | rfl
      · exact chk_on honec (h.chk c hc)
      · exact htc
    · rcases (hmem b).1 (sortB_mem.1 hb) with ⟨c, hc, rfl⟩ | rfl
      · have := List.all_eq_true.1 hall c hc
        simpa using this
      · exact hts
    · rcases (hmem b).1 (sortB_mem.1 hb) with ⟨c, hc, rfl⟩ | rfl
      · rcases hoccr c hc y hy with k | k
        · exact h.ranU c hc y k.1
        · exact htU y k
      · exact htU y hy
  · cases hb
theorem step_good {U : List ByteArray} {C : Nat} {s : List Bd} {p : Pr} {l : List Pr} (h : UGood U C s (p :: l)) {s' : List Bd} {ps : List Pr} (hs : stepU s p = .go s' ps) :
    UGood U C s' (ps ++ l) ∧ (s.length < s'.length ∨ (s' = s ∧ sumL s (ps ++ l) < sumL s (p :: l))) := by
  obtain ⟨hc1, hc2⟩ := h.lchk p (by simp)
  have hU := h.lU p (by simp)
  obtain ⟨a1, a2, a3⟩ := onU h hc1 fun y => (hU y).1
  obtain ⟨b1, b2, b3⟩ := onU h hc2 fun y => (hU y).2
  have hpos := Tm.size_pos (p.1.on s)
  have nameNo : ∀ {t : Tm}, NoDom s t → ∀ b ∈ s, b.1 ≠ t.name := fun {t} hn b hb e => (occ_no (hn b hb)).1 e.symm
  have nameU : ∀ {t : Tm}, (∀ y, occ y t = true → y ∈ U) → t.name ∈ U := fun {t} ht => ht _ (occ_iff.2 (.inl rfl))
  unfold stepU at hs
  split at hs
  · cases hs
  rename_i hz
  rw [not_or] at hz
  split at hs
  · cases hs
    exact ⟨h.tail, .inr ⟨rfl, by simp only [List.nil_append, sumL]; omega⟩⟩
  split at hs
  · rename_i hv
    obtain ⟨rfl, k1, k2⟩ := bindV_good h.tail hv (nameU a3) (nameNo a2) b1 (by omega) b2 b3 hs
    exact ⟨k1, .inl k2⟩
  split at hs
  · rename_i hv
    obtain ⟨rfl, k1, k2⟩ := bindV_good h.tail hv (nameU b3) (nameNo b2) a1 (by omega) a2 a3 hs
    exact ⟨k1, .inl k2⟩
  split at hs
  · rename_i heq
    cases hs
    have hsz := Tm.size_eq (p.1.on s)
    have hlen := Tm.length_le (p.1.on s).args
    have hid : ∀ a ∈ (p.1.on s).args, a.on s = a := fun a ha => on_id fun b hb => (occ_no (a2 b hb)).2 a ha
    have hsum : ∀ (xs ys : List Tm), (∀ a ∈ xs, a.on s = a) → sumL s (xs.zip ys) ≤ Tm.sizes xs := by
      intro xs
      induction xs with
      | nil => intro ys _; simp [sumL]
      | cons x xs ih =>
        intro ys hx
        cases ys with
        | nil => simp [sumL]
        | cons y ys =>
          have := ih ys fun a ha => hx a (by simp [ha])
          simp only [List.zip_cons_cons, sumL, Tm.sizes]
          rw [hx x (by simp)]
          omega
    have hzl : ((p.1.on s).args.zip (p.2.on s).args).length ≤ (p.1.on s).args.length := by rw [List.length_zip]; exact Nat.min_le_left _ _
    have hmin : min (p.1.on s).size 2000 = (p.1.on s).size := Nat.min_eq_left (by omega)
    have hf := h.fits.1
    rw [hmin] at hf
    have hszb := Tm.size_eq (p.2.on s)
    refine ⟨⟨h.ord, h.var, h.inU, h.chk, h.siz, h.idem, h.ranU, fun q hq => ?_, fun q hq => ?_, fun q hq => ?_, Fits.more (m := (p.1.on s).size - 1) (by omega) (by omega) h.fits.2 (by omega) fun c hc => ?_⟩, .inr ⟨rfl, ?_⟩⟩
    · rcases List.mem_append.1 hq with hq | hq
      · exact ⟨(Tm.chk_args a1).2 _ (zip_mem hq).1, (Tm.chk_args b1).2 _ (zip_mem hq).2⟩
      · exact h.tail.lchk q hq
    · rcases List.mem_append.1 hq with hq | hq
      · exact fun y => ⟨fun hy => a3 y (occ_arg (zip_mem hq).1 hy), fun hy => b3 y (occ_arg (zip_mem hq).2 hy)⟩
      · exact h.tail.lU q hq
    · rcases List.mem_append.1 hq with hq | hq
      · have h1 := Tm.size_mem (zip_mem hq).1
        have h2 := Tm.size_mem (zip_mem hq).2
        omega
      · exact h.tail.lsiz q hq
    · rw [hid _ (zip_mem hc).1]
      have h1 := Tm.size_mem (zip_mem hc).1
      omega
    · rw [sumL_append]
      have h1 := hsum _ (p.2.on s).args hid
      simp only [sumL]
      omega
  · cases hs
theorem uends_all {U : List ByteArray} {C : Nat} : ∀ (v m : Nat) (s : List Bd) (l : List Pr), UGood U C s l → U.length - s.length = v → sumL s l = m → ∃ n r, UEnds n s l r := by
  intro v
  induction v using Nat.strongRecOn with
  | _ v ihv =>
  intro m
  induction m using Nat.strongRecOn with
  | _ m ihm =>
  intro s l h hv hm
  cases l with
  | nil => exact ⟨0, _, .nil⟩
  | cons p l =>
    cases hs : stepU s p with
    | err e => exact ⟨1, _, .err hs⟩
    | go s' ps =>
      obtain ⟨h', hd⟩ := step_good h hs
      have hlen := h'.len
      rcases hd with hd | ⟨rfl, hd⟩
      · obtain ⟨n, r, hr⟩ := ihv (U.length - s'.length) (by omega) _ s' _ h' rfl rfl
        exact ⟨n + 1, r, .go hs hr⟩
      · obtain ⟨n, r, hr⟩ := ihm (sumL s' (ps ++ l)) (by omega) s' _ h' hv rfl
        exact ⟨n + 1, r, .go hs hr⟩
end Go.Proofs.Ytohgkbgpcnmdpaa

namespace Go.Proofs.Ytohgkbgpcnmdpaa
open Go Go.RowKit
set_option linter.unusedVariables false
def selfB (b : Bd) : Bool := decide (b.2.name = b.1)
def keepB (l : List Bd) : List Bd := l.filter fun b => !selfB b
def putIn (r : List Bd) (l : List Bd) : List Bd := l.map fun b => (b.1, b.2.on r)
def newIn (s : List Bd) (l : List Bd) : List Bd := l.filter fun b => !(lookup s b.1).isSome
def joined (s r : List Bd) : List Bd := putIn r s ++ newIn s r
theorem joined_named {s r : List Bd} (hs : Ordered s) (hr : Ordered r) : Named (joined s r) := by
  have h1 := ordered_named hs
  have h2 := ordered_named hr
  unfold Named at *
  unfold joined putIn newIn
  rw [List.map_append, List.map_map, List.nodup_append]
  refine ⟨h1, h2.sublist (List.Sublist.map _ List.filter_sublist), fun a ha b hb e => ?_⟩
  obtain ⟨c, hc, rfl⟩ := List.mem_map.1 ha
  obtain ⟨d, hd, rfl⟩ := List.mem_map.1 hb
  obtain ⟨hd1, hd2⟩ := List.mem_filter.1 hd
  cases hl : lookup s d.1 with
  | some x => rw [hl] at hd2; simp at hd2
  | none =>
    have hdom : ∀ b ∈ s, b.1 ≠ d.1 := by
      unfold lookup at hl
      rw [Option.map_eq_none_iff, List.find?_eq_none] at hl
      exact fun b hb e => hl b hb (by simpa using e)
    exact hdom c hc e
theorem keep_named {l : List Bd} (h : Named l) : Named (keepB l) := by
  unfold Named at *
  exact h.sublist (List.Sublist.map _ List.filter_sublist)
end Go.Proofs.Ytohgkbgpcnmdpaa

namespace Go.Proofs.Ytohgkbgpcnmdpaa
open Go Go.RowKit
set_option linter.unusedVariables false
theorem lookup_nil (y : ByteArray) : lookup [] y = none := rfl
theorem lookup_cons (b : Bd) (l : List Bd) (y : ByteArray) : lookup (b :: l) y = if b.1 = y then some b.2 else lookup l y := by
  unfold lookup
  by_cases h : b.1 = y
  · rw [List.find?_cons_of_pos (by simpa using h), if_pos h]; rfl
  · rw [List.find?_cons_of_neg (by simpa using h), if_neg h]
theorem lookup_iff {l : List Bd} (hn : Named l) {y : ByteArray} {x : Tm} : lookup l y = some x ↔ (y, x) ∈ l := by
  induction l with
  | nil => simp [lookup_nil]
  | cons b l ih =>
    obtain ⟨n1, n2⟩ := List.nodup_cons.1 (show ((b :: l).map fun c : Bd => c.1).Nodup from hn)
    rw [lookup_cons, List.mem_cons]
    by_cases h : b.1 = y
    · rw [if_pos h]
      constructor
      · intro e
        cases e
        exact .inl (by rw [← h])
      · rintro (e | e)
        · rw [← e]
        · exact absurd (List.mem_map.2 ⟨(y, x), e, rfl⟩) (by subst h; exact n1)
    · rw [if_neg h, ih n2]
      constructor
      · exact .inr
      · rintro (e | e)
        · exact absurd (by rw [← e]) h
        · exact e
theorem lookup_putIn (r : List Bd) (y : ByteArray) : ∀ l : List Bd, lookup (putIn r l) y = (lookup l y).map (Tm.on r)
  | [] => rfl
  | b :: l => by
    have e : putIn r (b :: l) = (b.1, b.2.on r) :: putIn r l := rfl
    rw [e, lookup_cons, lookup_cons, lookup_putIn r y l]
    by_cases h : b.1 = y
    · rw [if_pos h, if_pos h]; rfl
    · rw [if_neg h, if_neg h]
theorem lookup_append (y : ByteArray) (m : List Bd) : ∀ l : List Bd, lookup (l ++ m) y = match lookup l y with | some x => some x | none => lookup m y
  | [] => rfl
  | b :: l => by
    rw [List.cons_append, lookup_cons, lookup_cons, lookup_append y m l]
    by_cases h : b.1 = y
    · rw [if_pos h, if_pos h]
    · rw [if_neg h, if_neg h]
theorem lookup_newIn (s : List Bd) (y : ByteArray) (h : lookup s y = none) : ∀ r : List Bd, lookup (newIn s r) y = lookup r y
  | [] => rfl
  | b :: r => by
    unfold newIn
    by_cases e : b.1 = y
    · rw [List.filter_cons_of_pos (by rw [e, h]; rfl), lookup_cons, lookup_cons, if_pos e, if_pos e]
    · have ih := lookup_newIn s y h r
      unfold newIn at ih
      rw [List.filter_cons]
      split
      · rw [lookup_cons, lookup_cons, if_neg e, if_neg e, ih]
      · rw [lookup_cons, if_neg e, ih]
theorem lookup_joined (s r : List Bd) (y : ByteArray) : lookup (joined s r) y = match lookup s y with | some x => some (x.on r) | none => lookup r y := by
  unfold joined
  rw [lookup_append, lookup_putIn]
  cases h : lookup s y with
  | none => rw [Option.map_none]; exact lookup_newIn s y h r
  | some x => rfl
def leafT (y : ByteArray) : Tm := .mk y []
theorem on_leafT (s : List Bd) (y : ByteArray) : (leafT y).on s = (lookup s y).getD (leafT y) := by
  cases h : lookup s y with
  | none => rw [Tm.on_knot (.inl h)]; rfl
  | some x => rw [Tm.on_leaf h rfl]; rfl
theorem leaf_of {t : Tm} (h : t.args = []) : t = leafT t.name := by
  cases t with
  | mk n xs =>
    simp only [Tm.args_mk] at h
    subst h
    rfl
structure OkB (s : List Bd) : Prop where
  ord : Ordered s
  var : ∀ b ∈ s, isVar b.1 = true
  nam : ∀ b ∈ s, nameOk b.1 = true
  chk : ∀ b ∈ s, b.2.chk = 0
theorem chk_parts {t : Tm} (h : t.chk = 0) : chkOne t = 0 := by
  rw [Tm.chk_eq] at h
  by_cases h1 : chkOne t = 0
  · exact h1
  · rw [if_neg h1] at h; exact h
theorem chk_make {n : ByteArray} {xs ys : List Tm} (h : (Tm.mk n xs).chk = 0) (hl : ys.length = xs.length) (hy : ∀ y ∈ ys, y.chk = 0) : (Tm.mk n ys).chk = 0 := by
  have h1 : chkOne (Tm.mk n ys) = 0 := by
    have := chk_parts h
    unfold chkOne at this ⊢
    rw [Tm.name_mk, Tm.args_mk] at this ⊢
    rw [hl]; exact this
  rw [Tm.chk_eq, if_pos h1, Tm.args_mk]
  clear h h1 hl
  induction ys with
  | nil => rfl
  | cons x ys ih =>
    simp only [Tm.chkL]
    rw [if_pos (hy x (by simp))]
    exact ih fun y h => hy y (by simp [h])
theorem chk_sub {s : List Bd} (hs : ∀ b ∈ s, b.2.chk = 0) {t : Tm} (hc : t.chk = 0) : (t.on s).chk = 0 := by
  induction hN : SizeOf.sizeOf t using Nat.strongRecOn generalizing t with
  | _ N ih =>
  subst hN
  obtain ⟨c1, c2⟩ := Tm.chk_args hc
  by_cases hleaf : (∃ x, lookup s t.name = some x) ∧ t.args = []
  · obtain ⟨⟨x, hx⟩, h0⟩ := hleaf
    rw [Tm.on_leaf hx h0]
    obtain ⟨b, hb, _, rfl⟩ := lookup_mem hx
    exact hs b hb
  · have hon : t.on s = .mk t.name (t.args.map (Tm.on s)) := Tm.on_knot (by
      cases hl : lookup s t.name with
      | none => exact .inl rfl
      | some x => exact .inr fun h0 => hleaf ⟨⟨x, hl⟩, h0⟩)
    rw [hon]
    refine chk_make (xs := t.args) (by cases t; exact hc) (by simp) fun y hy => ?_
    obtain ⟨c, hc', rfl⟩ := List.mem_map.1 hy
    exact ih _ (Tm.lt_of_arg hc') (c2 c hc') rfl
def composed (s r : List Bd) : List Bd := sortB (keepB (joined s r))
theorem composed_named {s r : List Bd} (hs : OkB s) (hr : OkB r) : Named (composed s r) := ordered_named (sortB_ordered (keep_named (joined_named hs.ord hr.ord)))
theorem composed_iff {s r : List Bd} (hs : OkB s) (hr : OkB r) {y : ByteArray} {x : Tm} : lookup (composed s r) y = some x ↔ lookup (joined s r) y = some x ∧ x.name ≠ y := by
  rw [lookup_iff (composed_named hs hr), lookup_iff (joined_named hs.ord hr.ord)]
  unfold composed keepB
  rw [sortB_mem, List.mem_filter]
  refine and_congr_right fun _ => ?_
  unfold selfB
  simp
theorem joined_mem {s r : List Bd} {b : Bd} (h : b ∈ joined s r) : (∃ c ∈ s, b = (c.1, c.2.on r)) ∨ b ∈ r := by
  unfold joined at h
  rcases List.mem_append.1 h with h | h
  · obtain ⟨c, hc, rfl⟩ := List.mem_map.1 h
    exact .inl ⟨c, hc, rfl⟩
  · exact .inr (List.mem_filter.1 h).1
theorem composed_mem {s r : List Bd} {b : Bd} (h : b ∈ composed s r) : (∃ c ∈ s, b = (c.1, c.2.on r)) ∨ b ∈ r := joined_mem (List.mem_filter.1 (sortB_mem.1 h)).1
theorem composed_ok {s r : List Bd} (hs : OkB s) (hr : OkB r) : OkB (composed s r) := by
  refine ⟨sortB_ordered (keep_named (joined_named hs.ord hr.ord)), fun b hb => ?_, fun b hb => ?_, fun b hb => ?_⟩
  · rcases composed_mem hb with ⟨c, hc, rfl⟩ | h
    · exact hs.var c hc
    · exact hr.var b h
  · rcases composed_mem hb with ⟨c, hc, rfl⟩ | h
    · exact hs.nam c hc
    · exact hr.nam b h
  · rcases composed_mem hb with ⟨c, hc, rfl⟩ | h
    · exact chk_sub hr.chk (hs.chk c hc)
    · exact hr.chk b h
theorem on_composed {s r : List Bd} (hs : OkB s) (hr : OkB r) {t : Tm} (hc : t.chk = 0) : t.on (composed s r) = (t.on s).on r := by
  induction hN : SizeOf.sizeOf t using Nat.strongRecOn generalizing t with
  | _ N ih =>
  subst hN
  obtain ⟨c1, c2⟩ := Tm.chk_args hc
  by_cases ha : t.args = []
  · have ht := leaf_of ha
    rw [ht, on_leafT, on_leafT]
    have hself : ∀ x : Tm, x.chk = 0 → x.name = t.name → isVar t.name = true → x = leafT t.name := fun x hx hn hv => by
      have := leaf_of ((Tm.chk_args hx).1 (by rw [hn]; exact hv))
      rw [this, hn]
    have hiff := fun x => composed_iff hs hr (y := t.name) (x := x)
    cases hl : lookup s t.name with
    | some x =>
      obtain ⟨b, hb, hbn, rfl⟩ := lookup_mem hl
      have hv : isVar t.name = true := by rw [← hbn]; exact hs.var b hb
      have hj : lookup (joined s r) t.name = some (b.2.on r) := by rw [lookup_joined, hl]
      show (lookup (composed s r) t.name).getD _ = b.2.on r
      by_cases hn : (b.2.on r).name = t.name
      · have hnone : lookup (composed s r) t.name = none := by
          cases hq : lookup (composed s r) t.name with
          | none => rfl
          | some z =>
            obtain ⟨q1, q2⟩ := (hiff z).1 hq
            rw [hj] at q1
            cases q1
            exact absurd hn q2
        rw [hnone]
        exact (hself _ (chk_sub hr.chk (hs.chk b hb)) hn hv).symm
      · rw [(hiff _).2 ⟨hj, hn⟩]
        rfl
    | none =>
      show (lookup (composed s r) t.name).getD _ = (leafT t.name).on r
      rw [on_leafT]
      have hj : lookup (joined s r) t.name = lookup r t.name := by rw [lookup_joined, hl]
      cases hlr : lookup r t.name with
      | some x =>
        obtain ⟨b, hb, hbn, rfl⟩ := lookup_mem hlr
        have hv : isVar t.name = true := by rw [← hbn]; exact hr.var b hb
        by_cases hn : b.2.name = t.name
        · have hnone : lookup (composed s r) t.name = none := by
            cases hq : lookup (composed s r) t.name with
            | none => rfl
            | some z =>
              obtain ⟨q1, q2⟩ := (hiff z).1 hq
              rw [hj, hlr] at q1
              cases q1
              exact absurd hn q2
          rw [hnone]
          exact (hself _ (hr.chk b hb) hn hv).symm
        · rw [(hiff _).2 ⟨by rw [hj, hlr], hn⟩]
      | none =>
        have hnone : lookup (composed s r) t.name = none := by
          cases hq : lookup (composed s r) t.name with
          | none => rfl
          | some z =>
            obtain ⟨q1, _⟩ := (hiff z).1 hq
            rw [hj, hlr] at q1
            cases q1
        rw [hnone]
  · rw [Tm.on_knot (.inr ha), Tm.on_knot (s := s) (.inr ha), Tm.on_knot (s := r) (.inr (by rw [Tm.args_mk]; simpa using ha))]
    simp only [Tm.name_mk, Tm.args_mk, List.map_map]
    congr 1
    exact List.map_congr_left fun a h => ih _ (Tm.lt_of_arg h) (c2 a h) rfl
end Go.Proofs.Ytohgkbgpcnmdpaa

namespace Go.Proofs.Ytohgkbgpcnmdpaa
open Go Go.RowKit
set_option linter.unusedVariables false
abbrev vT (x : ByteArray) : Tm := .mk x []
def Sol (s θ : List Bd) : Prop := ∀ b ∈ s, b.2.on θ = (vT b.1).on θ
theorem on_args {θ : List Bd} {t : Tm} (h : t.args ≠ []) : t.on θ = .mk t.name (t.args.map (Tm.on θ)) := Tm.on_knot (.inr h)
theorem tm_leaf {t : Tm} (h : t.args = []) : t = vT t.name := by
  cases t with
  | mk n xs =>
    change xs = [] at h
    subst h
    rfl
theorem sol_on {s θ : List Bd} (hv : ∀ b ∈ s, isVar b.1 = true) (hs : Sol s θ) {t : Tm} (hc : t.chk = 0) : (t.on s).on θ = t.on θ := by
  induction hN : SizeOf.sizeOf t using Nat.strongRecOn generalizing t with
  | _ N ih =>
  subst hN
  obtain ⟨c1, c2⟩ := Tm.chk_args hc
  cases hl : lookup s t.name with
  | some x =>
    obtain ⟨b, hb, hbn, hbx⟩ := lookup_mem hl
    have h0 := c1 (by rw [← hbn]; exact hv b hb)
    rw [Tm.on_leaf hl h0, ← hbx, hs b hb, hbn, ← tm_leaf h0]
  | none =>
    rw [Tm.on_knot (.inl hl)]
    by_cases h0 : t.args = []
    · have : (Tm.mk t.name (t.args.map (Tm.on s))) = t := by
        cases t with
        | mk n xs =>
          change xs = [] at h0
          subst h0
          rfl
      rw [this]
    · rw [on_args (t := Tm.mk t.name (t.args.map (Tm.on s))) (by rw [Tm.args_mk]; simpa using h0), on_args h0]
      congr 1
      rw [Tm.args_mk, List.map_map]
      exact List.map_congr_left fun a ha => ih _ (Tm.lt_of_arg ha) (c2 a ha) rfl
theorem occ_size {θ : List Bd} {x : ByteArray} (hx : isVar x = true) {t : Tm} (hc : t.chk = 0) (h : occ x t = true) : ((vT x).on θ).size ≤ (t.on θ).size ∧ (t.name ≠ x → ((vT x).on θ).size < (t.on θ).size) := by
  induction hN : SizeOf.sizeOf t using Nat.strongRecOn generalizing t with
  | _ N ih =>
  subst hN
  obtain ⟨c1, c2⟩ := Tm.chk_args hc
  rcases occ_iff.1 h with h | ⟨a, ha, h⟩
  · have h0 := c1 (by rw [h]; exact hx)
    rw [tm_leaf h0, h]
    exact ⟨Nat.le_refl _, fun hn => absurd rfl hn⟩
  · have h0 : t.args ≠ [] := fun e => by rw [e] at ha; cases ha
    have h1 := (ih _ (Tm.lt_of_arg ha) (c2 a ha) h rfl).1
    have h2 := Tm.size_mem (xs := t.args.map (Tm.on θ)) (List.mem_map_of_mem ha)
    have h3 : (t.on θ).size = 1 + Tm.sizes (t.args.map (Tm.on θ)) := by rw [on_args h0, Tm.size_eq]; rfl
    omega
theorem name_on {θ : List Bd} (hv : ∀ b ∈ θ, isVar b.1 = true) {t : Tm} (hn : ¬ isVar t.name = true) : t.on θ = .mk t.name (t.args.map (Tm.on θ)) := by
  refine Tm.on_knot (.inl (lookup_none fun b hb e => hn ?_))
  rw [← e]
  exact hv b hb
theorem sol_bind {s θ : List Bd} {x : ByteArray} {t : Tm} (hv : ∀ b ∈ s, isVar b.1 = true) (hx : isVar x = true) (hc : ∀ b ∈ s, b.2.chk = 0) (h1 : t.on θ = (vT x).on θ) : Sol s θ ↔ Sol (s.map fun b => (b.1, b.2.on [(x, t)])) θ := by
  have hone : Sol [(x, t)] θ := fun b hb => by
    rw [List.mem_singleton] at hb
    subst hb
    exact h1
  have hvo : ∀ b ∈ ([(x, t)] : List Bd), isVar b.1 = true := by simp [hx]
  constructor
  · intro hs b hb
    obtain ⟨c, hc', rfl⟩ := List.mem_map.1 hb
    show (c.2.on [(x, t)]).on θ = _
    rw [sol_on hvo hone (hc c hc')]
    exact hs c hc'
  · intro hs b hb
    have := hs (b.1, b.2.on [(x, t)]) (List.mem_map.2 ⟨b, hb, rfl⟩)
    change (b.2.on [(x, t)]).on θ = (vT b.1).on θ at this
    rwa [sol_on hvo hone (hc b hb)] at this
theorem sol_sort {s θ : List Bd} {b : Bd} : Sol (sortB (s ++ [b])) θ ↔ Sol s θ ∧ b.2.on θ = (vT b.1).on θ := by
  constructor
  · intro h
    exact ⟨fun c hc => h c (sortB_mem.2 (by simp [hc])), h b (sortB_mem.2 (by simp))⟩
  · rintro ⟨h1, h2⟩ c hc
    rcases List.mem_append.1 (sortB_mem.1 hc) with h | h
    · exact h1 c h
    · rw [List.mem_singleton] at h
      subst h
      exact h2
theorem zip_map {f : Tm → Tm} : ∀ {xs ys : List Tm}, xs.length = ys.length → ((∀ p ∈ xs.zip ys, f p.1 = f p.2) ↔ xs.map f = ys.map f)
  | [], [], _ => by simp
  | x :: xs, y :: ys, h => by
    have := zip_map (f := f) (xs := xs) (ys := ys) (by simpa using h)
    simp only [List.zip_cons_cons, List.mem_cons, forall_eq_or_imp, List.map_cons, List.cons.injEq]
    rw [this]
theorem step_sol {U : List ByteArray} {C : Nat} {s : List Bd} {p : Pr} {l : List Pr} (h : UGood U C s (p :: l)) {θ : List Bd} (hθ : ∀ b ∈ θ, isVar b.1 = true) {s' : List Bd} {ps : List Pr} (hs : stepU s p = .go s' ps) : (Sol s θ ∧ p.1.on θ = p.2.on θ) ↔ (Sol s' θ ∧ ∀ q ∈ ps, q.1.on θ = q.2.on θ) := by
  obtain ⟨hc1, hc2⟩ := h.lchk p (by simp)
  have hU := h.lU p (by simp)
  obtain ⟨a1, a2, a3⟩ := onU h hc1 fun y => (hU y).1
  obtain ⟨b1, b2, b3⟩ := onU h hc2 fun y => (hU y).2
  have e1 := fun hsol => sol_on h.var (θ := θ) hsol hc1
  have e2 := fun hsol => sol_on h.var (θ := θ) hsol hc2
  have bind : ∀ {x t u : Tm}, isVar x.name = true → x.chk = 0 → bindV s x.name t = .go s' ps → (Sol s θ ∧ x.on θ = t.on θ ↔ Sol s' θ ∧ ∀ q ∈ ps, q.1.on θ = q.2.on θ) := by
    intro x t u hx hxc hb
    have hxl := tm_leaf ((Tm.chk_args hxc).1 hx)
    unfold bindV at hb
    split at hb
    · cases hb
    split at hb
    · cases hb
      rw [sol_sort]
      constructor
      · rintro ⟨k1, k2⟩
        have k3 : t.on θ = (vT x.name).on θ := by rw [← hxl]; exact k2.symm
        exact ⟨⟨(sol_bind h.var hx h.chk k3).1 k1, k3⟩, fun q hq => by cases hq⟩
      · rintro ⟨⟨k1, k3⟩, _⟩
        exact ⟨(sol_bind h.var hx h.chk k3).2 k1, by rw [hxl]; exact k3.symm⟩
    · cases hb
  unfold stepU at hs
  split at hs
  · cases hs
  split at hs
  · rename_i hv
    cases hs
    have l1 := tm_leaf ((Tm.chk_args a1).1 hv.1)
    have l2 := tm_leaf ((Tm.chk_args b1).1 (by rw [← hv.2]; exact hv.1))
    constructor
    · rintro ⟨k1, _⟩
      exact ⟨k1, fun q hq => by cases hq⟩
    · rintro ⟨k1, _⟩
      refine ⟨k1, ?_⟩
      rw [← e1 k1, ← e2 k1, l1, l2, hv.2]
  split at hs
  · rename_i hv
    rw [← bind (u := p.2.on s) hv a1 hs]
    constructor
    · rintro ⟨k1, k2⟩
      exact ⟨k1, by rw [e1 k1, e2 k1]; exact k2⟩
    · rintro ⟨k1, k2⟩
      exact ⟨k1, by rw [e1 k1, e2 k1] at k2; exact k2⟩
  split at hs
  · rename_i hv
    rw [← bind (u := p.1.on s) hv b1 hs]
    constructor
    · rintro ⟨k1, k2⟩
      exact ⟨k1, by rw [e1 k1, e2 k1]; exact k2.symm⟩
    · rintro ⟨k1, k2⟩
      exact ⟨k1, by rw [e1 k1, e2 k1] at k2; exact k2.symm⟩
  rename_i hv1 hv2
  split at hs
  · rename_i heq
    cases hs
    rw [zip_map heq.2]
    constructor
    · rintro ⟨k1, k2⟩
      refine ⟨k1, ?_⟩
      rw [← e1 k1, ← e2 k1, name_on hθ hv1, name_on hθ hv2] at k2
      injection k2
    · rintro ⟨k1, k2⟩
      refine ⟨k1, ?_⟩
      rw [← e1 k1, ← e2 k1, name_on hθ hv1, name_on hθ hv2, k2, heq.1]
  · cases hs
theorem step_no {s : List Bd} {p : Pr} {e : Int} (h : stepU s p = .err e) : e ≠ 0 := by
  have hb : ∀ {x : ByteArray} {t : Tm}, bindV s x t = .err e → e ≠ 0 := by
    intro x t hb
    unfold bindV at hb
    split at hb
    · cases hb; decide
    split at hb
    · cases hb
    · cases hb; decide
  unfold stepU at h
  split at h
  · cases h; decide
  split at h
  · cases h
  split at h
  · exact hb h
  split at h
  · exact hb h
  split at h
  · cases h
  · cases h; decide
theorem sol_self {s : List Bd} (hn : Named s) (hi : ∀ b ∈ s, NoDom s b.2) : Sol s s := fun b hb => by
  rw [on_id (hi b hb), Tm.on_leaf (t := vT b.1) ((lookup_iff hn).2 (by exact hb)) rfl]
theorem robin_unifies {U : List ByteArray} {C : Nat} {n : Nat} {s : List Bd} {l : List Pr} {r : List Bd × Int} (hr : UEnds n s l r) : UGood U C s l → r.2 = 0 → UGood U C r.1 [] ∧ Sol s r.1 ∧ ∀ p ∈ l, p.1.on r.1 = p.2.on r.1 := by
  induction hr with
  | nil => exact fun h _ => ⟨h, sol_self (ordered_named h.ord) h.idem, fun p hp => by cases hp⟩
  | err he => exact fun _ h0 => absurd h0 (step_no he)
  | @go s p l s' ps n r hst hr ih =>
    intro h h0
    obtain ⟨h', _⟩ := step_good h hst
    obtain ⟨q0, q1, q2⟩ := ih h' h0
    obtain ⟨k1, k2⟩ := (step_sol h q0.var hst).2 ⟨q1, fun q hq => q2 q (by simp [hq])⟩
    refine ⟨q0, k1, fun q hq => ?_⟩
    rcases List.mem_cons.1 hq with rfl | hq
    · exact k2
    · exact q2 q (by simp [hq])
end Go.Proofs.Ytohgkbgpcnmdpaa

namespace Go.Proofs.Ytohgkbgpcnmdpaa
open Go Go.RowKit
set_option maxRecDepth 100000
def ir_R_Pick : IR :=
  (.seq
  (.ops
  [.mk (some 4) none (.mov (.c (.one (.st (.int .i64 0)))))
  .no])
  (.seq
  (.seq
  (.ops
  [.mk (some 5) none (.mov (.t 0)) .no, .mk (some 6) none (.bin .lss (.t 5) (.c (.one (.st (.int .i64 0)))))
  .no])
  (.cond (.t 6)
  (.ops
  [.mk (some 7) none (.mov (.t 0)) .no, .mk (some 8) none (.bin .add (.t 7) (.c (.one (.st (.int .i64 1)))))
  .no, .mk (some 9) none (.un .neg (.t 8)) .no, .mk (some 0) none (.mov (.t 9)) .no])
  .skip))
  (.seq
  (.ops
  [.mk (some 10) none (.mov (.t 0)) .no, .mk (some 11) none (.mov (.t 1)) .no, .mk (some 12) none (.bin .rem (.t 10) (.t 11))
  .no, .mk (some 4) none (.mov (.t 12)) .no])
  .ret)))
theorem tr_R_Pick : trCode Try.prog 13 [] (Try.f11.body.getD .skip) = some ir_R_Pick := by kernel_rfl
theorem ac_R_Pick {xs : List AV} {r : AV} (hn : xs.length ≤ 13) (h : ∀ C : Ctx, C.n = 13 → IWP Try.prog C [] ir_R_Pick (FinQ [.t 4] r) (AS.start xs)) : ACalls Try.prog 11 xs r :=
  acalls_of Try.func11 rfl tr_R_Pick rfl hn h
def ir_R_Raw : IR :=
  (.seq
  (.ops
  [.mk (some 4) none (.mov (.c (.one (.st (.int .i64 0)))))
  .no])
  (.seq
  (.seq
  (.ops
  [.mk (some 5) none (.mov (.t 0)) .no, .mk (some 6) none (.len false (.t 5)) .no, .mk (some 7) none (.bin .eql (.t 6) (.c (.one (.st (.int .i64 0)))))
  .no])
  (.cond (.t 7)
  (.seq
  (.ops
  [.mk (some 8) none (.mov (.t 1)) .no, .mk (some 9) none (.bin .mul (.t 8) (.c (.one (.st (.int .i64 31)))))
  .no, .mk (some 4) none (.mov (.t 9)) .no])
  .ret)
  .skip))
  (.seq
  (.ops
  [.mk (some 10) none (.mov (.t 0)) .no, .mk (some 11) none (.mov (.t 1)) .no, .mk (some 12) none (.mov (.t 0)) .no, .mk (some 13) none (.len false (.t 12)) .no, .mk (some 14) none (.bin .rem (.t 11) (.t 13))
  .no, .mk (some 15) none (.indexAddr 1 (.t 10) (.t 14)) .no, .mk (some 16) none (.load false 1 (.t 15)) .no, .mk (some 17) none (.call 11
  [.t 16, .c (.one (.st (.int .i64 1000003)))])
  .no, .mk (some 18) none (.mov (.t 1)) .no, .mk (some 19) none (.mov (.t 0)) .no, .mk (some 20) none (.len false (.t 19)) .no, .mk (some 21) none (.bin .quo (.t 18) (.t 20))
  .no, .mk (some 22) none (.bin .mul (.t 21) (.c (.one (.st (.int .i64 7919)))))
  .no, .mk (some 23) none (.bin .add (.t 17) (.t 22))
  .no, .mk (some 4) none (.mov (.t 23)) .no])
  .ret)))
theorem tr_R_Raw : trCode Try.prog 24 [] (Try.f38.body.getD .skip) = some ir_R_Raw := by kernel_rfl
theorem ac_R_Raw {xs : List AV} {r : AV} (hn : xs.length ≤ 24) (h : ∀ C : Ctx, C.n = 24 → IWP Try.prog C [] ir_R_Raw (FinQ [.t 4] r) (AS.start xs)) : ACalls Try.prog 38 xs r :=
  acalls_of Try.func38 rfl tr_R_Raw rfl hn h
def ir_R_Leaf : IR :=
  (.seq
  (.ops
  [.mk (some 2) none
  (.alloc 24 [.st (.str (ByteArray.mk (#[]))), .full []]) .no])
  (.seq
  (.ops
  [.mk (some 3) none (.mov (.t 0)) .no, .mk (some 4) none
  (.build [.st (.str (ByteArray.mk (#[]))), .full []]
  [(0, 1, .t 3)])
  .no, .mk none none (.store 2 (.t 2) (.t 4)) .no])
  .ret))
theorem tr_R_Leaf : trCode Try.prog 5 [] (Try.f22.body.getD .skip) = some ir_R_Leaf := by kernel_rfl
theorem ac_R_Leaf {xs : List AV} {r : AV} (hn : xs.length ≤ 5) (h : ∀ C : Ctx, C.n = 5 → IWP Try.prog C [] ir_R_Leaf (FinQ [.cell 2 true 2] r) (AS.start xs)) : ACalls Try.prog 22 xs r :=
  acalls_of Try.func22 rfl tr_R_Leaf rfl hn h
def ir_R_Grow : IR :=
  (.seq
  (.ops
  [.mk (some 8) none
  (.alloc 24 [.st (.str (ByteArray.mk (#[]))), .full []]) .no, .mk (some 9) none (.mov (.c (.one (.st (.int .i64 0)))))
  .no])
  (.seq
  (.ops
  [.mk (some 18) none (.mov (.t 0)) .no, .mk (some 19) none (.mov (.t 1)) .no, .mk (some 20) none (.call 38 [.t 18, .t 19]) .no, .mk (some 10) none (.mov (.t 20)) .no])
  (.seq
  (.ops
  [.mk (some 21) none (.mov (.t 1)) .no, .mk (some 22) none (.bin .add (.t 21) (.c (.one (.st (.int .i64 1)))))
  .no, .mk (some 1) none (.mov (.t 22)) .no])
  (.seq
  (.seq
  (.ops
  [.mk (some 23) none (.mov (.t 2)) .no, .mk (some 24) none (.bin .lss (.t 23) (.c (.one (.st (.int .i64 3)))))
  .no, .mk (some 25) none (.mov (.t 24)) .no, .mk (some 26) (some (25, false)) (.mov (.t 10)) .no, .mk (some 27) (some (25, false)) (.call 11
  [.t 26, .c (.one (.st (.int .i64 5)))])
  .no, .mk (some 28) (some (25, false)) (.bin .lss (.t 27) (.c (.one (.st (.int .i64 2)))))
  .no, .mk (some 29) none
  (.pick (.t 25) (.c (.one (.st (.bool true)))) (.t 28))
  .no])
  (.cond (.t 29)
  (.seq
  (.seq
  (.ops
  [.mk (some 30) none (.mov (.t 3)) .no, .mk (some 31) none (.bin .gtr (.t 30) (.c (.one (.st (.int .i64 0)))))
  .no, .mk (some 32) none (.mov (.t 31)) .no, .mk (some 33) (some (32, true)) (.mov (.t 10)) .no, .mk (some 34) (some (32, true)) (.bin .quo (.t 33) (.c (.one (.st (.int .i64 5)))))
  .no, .mk (some 35) (some (32, true)) (.call 11
  [.t 34, .c (.one (.st (.int .i64 3)))])
  .no, .mk (some 36) (some (32, true)) (.bin .gtr (.t 35) (.c (.one (.st (.int .i64 0)))))
  .no, .mk (some 37) none
  (.pick (.t 32) (.t 36) (.c (.one (.st (.bool false)))))
  .no])
  (.cond (.t 37)
  (.seq
  (.ops
  [.mk (some 38) none
  (.buildFlat
  [.c (.one (.st (.str (ByteArray.mk (#[88]))))), .c (.one (.st (.str (ByteArray.mk (#[89]))))), .c (.one (.st (.str (ByteArray.mk (#[90]))))), .c (.one (.st (.str (ByteArray.mk (#[85])))))])
  .no, .mk (some 39) none (.mov (.t 10)) .no, .mk (some 40) none (.bin .quo (.t 39) (.c (.one (.st (.int .i64 15)))))
  .no, .mk (some 41) none (.mov (.t 3)) .no, .mk (some 42) none (.call 11 [.t 40, .t 41])
  .no, .mk (some 43) none (.indexAddr 1 (.t 38) (.t 42))
  .no, .mk (some 44) none (.load false 1 (.t 43)) .no, .mk (some 45) none (.call 22 [.t 44]) .no, .mk (some 46) none (.mov (.t 1)) .no, .mk none none (.store 2 (.t 8) (.t 45))
  .no, .mk (some 9) none (.mov (.t 46)) .no])
  .ret)
  .skip))
  (.seq
  (.ops
  [.mk (some 47) none
  (.buildFlat
  [.c (.one (.st (.str (ByteArray.mk (#[97]))))), .c (.one (.st (.str (ByteArray.mk (#[98]))))), .c (.one (.st (.str (ByteArray.mk (#[99])))))])
  .no, .mk (some 48) none (.mov (.t 10)) .no, .mk (some 49) none (.bin .quo (.t 48) (.c (.one (.st (.int .i64 15)))))
  .no, .mk (some 50) none (.call 11
  [.t 49, .c (.one (.st (.int .i64 3)))])
  .no, .mk (some 51) none (.indexAddr 1 (.t 47) (.t 50))
  .no, .mk (some 52) none (.load false 1 (.t 51)) .no, .mk (some 53) none (.call 22 [.t 52]) .no, .mk (some 54) none (.mov (.t 1)) .no, .mk none none (.store 2 (.t 8) (.t 53)) .no, .mk (some 9) none (.mov (.t 54)) .no])
  .ret))
  .skip))
  (.seq
  (.seq
  (.ops
  [.mk (some 55) none (.mov (.t 10)) .no, .mk (some 56) none (.bin .quo (.t 55) (.c (.one (.st (.int .i64 5)))))
  .no, .mk (some 57) none (.call 11
  [.t 56, .c (.one (.st (.int .i64 4)))])
  .no])
  (.block 0
  (.seq
  (.ops
  [.mk (some 59) none (.bin .eql (.t 57) (.c (.one (.st (.int .i64 0)))))
  .no, .mk (some 58) none (.mov (.t 59)) .no])
  (.cond (.t 58)
  (.seq
  (.ops
  [.mk (some 61) none (.mov (.t 0)) .no, .mk (some 62) none (.mov (.t 1)) .no, .mk (some 63) none (.mov (.t 2)) .no, .mk (some 64) none (.bin .sub (.t 63) (.c (.one (.st (.int .i64 1)))))
  .no, .mk (some 65) none (.mov (.t 3)) .no, .mk (some 66) none (.call 29 [.t 61, .t 62, .t 64, .t 65])
  .no, .mk (some 60) none (.mov (.t 66)) .no, .mk (some 67) none (.extract 0 (.t 60)) .no, .mk (some 68) none (.extract 1 (.t 60)) .no, .mk (some 11) none
  (.alloc 24 [.st (.str (ByteArray.mk (#[]))), .full []])
  .no, .mk none none (.store 2 (.t 11) (.t 67))
  .no, .mk (some 12) none (.mov (.t 68)) .no])
  (.seq
  (.ops
  [.mk (some 69) none (.load true 2 (.t 11)) .no, .mk (some 70) none (.buildSlice false 24 2 [.t 69]) .no, .mk (some 71) none
  (.build [.st (.str (ByteArray.mk (#[]))), .full []]
  [(0, 1, .c (.one (.st (.str (ByteArray.mk (#[104])))))),
  (1, 1, .t 70)])
  .no, .mk (some 72) none (.mov (.t 12)) .no, .mk none none (.store 2 (.t 8) (.t 71))
  .no, .mk (some 9) none (.mov (.t 72)) .no])
  .ret))
  (.seq
  (.ops
  [.mk (some 74) none (.bin .eql (.t 57) (.c (.one (.st (.int .i64 1)))))
  .no, .mk (some 73) none (.mov (.t 74)) .no])
  (.cond (.t 73)
  (.seq
  (.ops
  [.mk (some 76) none (.mov (.t 0)) .no, .mk (some 77) none (.mov (.t 1)) .no, .mk (some 78) none (.mov (.t 2)) .no, .mk (some 79) none (.bin .sub (.t 78) (.c (.one (.st (.int .i64 1)))))
  .no, .mk (some 80) none (.mov (.t 3)) .no, .mk (some 81) none (.call 29 [.t 76, .t 77, .t 79, .t 80])
  .no, .mk (some 75) none (.mov (.t 81)) .no, .mk (some 82) none (.extract 0 (.t 75)) .no, .mk (some 83) none (.extract 1 (.t 75)) .no, .mk (some 13) none
  (.alloc 24 [.st (.str (ByteArray.mk (#[]))), .full []])
  .no, .mk none none (.store 2 (.t 13) (.t 82))
  .no, .mk (some 14) none (.mov (.t 83)) .no])
  (.seq
  (.ops
  [.mk (some 84) none (.load true 2 (.t 13)) .no, .mk (some 85) none (.buildSlice false 24 2 [.t 84]) .no, .mk (some 86) none
  (.build [.st (.str (ByteArray.mk (#[]))), .full []]
  [(0, 1, .c (.one (.st (.str (ByteArray.mk (#[107])))))),
  (1, 1, .t 85)])
  .no, .mk (some 87) none (.mov (.t 14)) .no, .mk none none (.store 2 (.t 8) (.t 86))
  .no, .mk (some 9) none (.mov (.t 87)) .no])
  .ret))
  .skip))))))
  (.seq
  (.ops
  [.mk (some 89) none (.mov (.t 0)) .no, .mk (some 90) none (.mov (.t 1)) .no, .mk (some 91) none (.mov (.t 2)) .no, .mk (some 92) none (.bin .quo (.t 91) (.c (.one (.st (.int .i64 2)))))
  .no, .mk (some 93) none (.mov (.t 3)) .no, .mk (some 94) none (.call 29 [.t 89, .t 90, .t 92, .t 93])
  .no, .mk (some 88) none (.mov (.t 94)) .no, .mk (some 95) none (.extract 0 (.t 88)) .no, .mk (some 96) none (.extract 1 (.t 88)) .no, .mk (some 15) none
  (.alloc 24 [.st (.str (ByteArray.mk (#[]))), .full []])
  .no, .mk none none (.store 2 (.t 15) (.t 95)) .no, .mk (some 16) none (.mov (.t 96)) .no])
  (.seq
  (.ops
  [.mk (some 98) none (.mov (.t 0)) .no, .mk (some 99) none (.mov (.t 16)) .no, .mk (some 100) none (.mov (.t 2)) .no, .mk (some 101) none (.bin .quo (.t 100) (.c (.one (.st (.int .i64 2)))))
  .no, .mk (some 102) none (.mov (.t 3)) .no, .mk (some 103) none (.call 29 [.t 98, .t 99, .t 101, .t 102])
  .no, .mk (some 97) none (.mov (.t 103)) .no, .mk (some 104) none (.extract 0 (.t 97)) .no, .mk (some 105) none (.extract 1 (.t 97)) .no, .mk (some 17) none
  (.alloc 24 [.st (.str (ByteArray.mk (#[]))), .full []])
  .no, .mk none none (.store 2 (.t 17) (.t 104)) .no, .mk (some 16) none (.mov (.t 105)) .no])
  (.seq
  (.ops
  [.mk (some 106) none
  (.buildFlat
  [.c (.one (.st (.str (ByteArray.mk (#[102]))))), .c (.one (.st (.str (ByteArray.mk (#[103])))))])
  .no, .mk (some 107) none (.mov (.t 10)) .no, .mk (some 108) none (.bin .quo (.t 107) (.c (.one (.st (.int .i64 5)))))
  .no, .mk (some 109) none (.call 11
  [.t 108, .c (.one (.st (.int .i64 4)))])
  .no, .mk (some 110) none (.bin .sub (.t 109) (.c (.one (.st (.int .i64 2)))))
  .no, .mk (some 111) none (.indexAddr 1 (.t 106) (.t 110))
  .no, .mk (some 112) none (.load false 1 (.t 111)) .no, .mk (some 113) none (.load true 2 (.t 15)) .no, .mk (some 114) none (.load true 2 (.t 17)) .no, .mk (some 115) none (.buildSlice false 24 2 [.t 113, .t 114])
  .no, .mk (some 116) none
  (.build [.st (.str (ByteArray.mk (#[]))), .full []]
  [(0, 1, .t 112), (1, 1, .t 115)])
  .no, .mk (some 117) none (.mov (.t 16)) .no, .mk none none (.store 2 (.t 8) (.t 116)) .no, .mk (some 9) none (.mov (.t 117)) .no])
  .ret))))))))
theorem tr_R_Grow : trCode Try.prog 118 [] (Try.f29.body.getD .skip) = some ir_R_Grow := by kernel_rfl
theorem ac_R_Grow {xs : List AV} {r : AV} (hn : xs.length ≤ 118) (h : ∀ C : Ctx, C.n = 118 → IWP Try.prog C [] ir_R_Grow (FinQ [.cell 8 true 2, .t 9] r) (AS.start xs)) : ACalls Try.prog 29 xs r :=
  acalls_of Try.func29 rfl tr_R_Grow rfl hn h
def ir_R_TermOf : IR :=
  (.seq
  (.ops
  [.mk (some 8) none
  (.alloc 24 [.st (.str (ByteArray.mk (#[]))), .full []]) .no])
  (.seq
  (.ops
  [.mk (some 12) none (.mov (.t 0)) .no, .mk (some 13) none (.mov (.t 1)) .no, .mk (some 14) none (.mov (.t 2)) .no, .mk (some 15) none (.mov (.t 3)) .no, .mk (some 16) none (.call 29 [.t 12, .t 13, .t 14, .t 15])
  .no, .mk (some 11) none (.mov (.t 16)) .no, .mk (some 17) none (.extract 0 (.t 11)) .no, .mk (some 18) none (.extract 1 (.t 11)) .no, .mk (some 9) none
  (.alloc 24 [.st (.str (ByteArray.mk (#[]))), .full []]) .no, .mk none none (.store 2 (.t 9) (.t 17)) .no, .mk (some 10) none (.mov (.t 18)) .no])
  (.seq
  (.ops
  [.mk (some 19) none (.load true 2 (.t 9)) .no, .mk none none (.store 2 (.t 8) (.t 19)) .no])
  .ret)))
theorem tr_R_TermOf : trCode Try.prog 20 [] (Try.f10.body.getD .skip) = some ir_R_TermOf := by kernel_rfl
theorem ac_R_TermOf {xs : List AV} {r : AV} (hn : xs.length ≤ 20) (h : ∀ C : Ctx, C.n = 20 → IWP Try.prog C [] ir_R_TermOf (FinQ [.cell 8 true 2] r) (AS.start xs)) : ACalls Try.prog 10 xs r :=
  acalls_of Try.func10 rfl tr_R_TermOf rfl hn h
end Go.Proofs.Ytohgkbgpcnmdpaa
