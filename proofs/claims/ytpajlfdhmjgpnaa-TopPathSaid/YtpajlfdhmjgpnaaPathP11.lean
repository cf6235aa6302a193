/-
  Part 11 of the texts: AbsU; BMemo; IrPath; PTerm; BTwin; PSubst; PSort; PThen. Conditions: none.
-/
import Derived.Test.YtpajlfdhmjgpnaaPathP10
namespace Go.Proofs.Ytpajlfdhmjgpnaa
open Go Go.RowKit
set_option linter.unusedVariables false

def Kd.isCall : Kd → Bool
  | .call _ _ => true
  | .callS _ _ => true
  | .callV _ _ => true
  | .callN _ _ => true
  | .callR _ _ => true
  | .callW _ _ => true
  | .buildFlat _ => false
  | .cutP _ _ _ => false
  | .indexP _ _ _ => false
  | .appP _ _ _ _ _ => false
  | .restP _ _ _ => false
  | .clearP _ _ _ _ => false
  | .mov _ => false
  | .pick _ _ _ => false
  | .alloc _ _ => false
  | .box _ _ => false
  | .build _ _ => false
  | .buildSlice _ _ _ _ => false
  | .load _ _ _ => false
  | .store _ _ _ => false
  | .fieldAddr _ _ => false
  | .field _ _ _ _ => false
  | .indexAddr _ _ _ => false
  | .indexArr _ _ _ _ => false
  | .indexStr _ _ => false
  | .bin _ _ _ => false
  | .eqB _ _ _ => false
  | .eqN _ _ => false
  | .eqE _ _ => false
  | .never => false
  | .strOf _ => false
  | .un _ _ => false
  | .sliceS _ _ _ => false
  | .sliceL _ _ _ _ => false
  | .extract _ _ => false
  | .len _ _ => false
  | .append _ _ _ _ _ _ => false
  | .conv _ _ => false
  | .nilCheck _ => false
  | .mm _ _ _ => false
  | .makeSlice _ _ _ _ _ _ => false
  | .makeFunc _ _ => false
  | .makeMap _ => false
  | .lookup _ _ _ _ _ => false
  | .mapSet _ _ _ _ => false
  | .mapEntry _ _ _ _ => false
  | .entrySet _ _ _ => false
  | .rangeM _ => false
  | .next _ => false
  | .entry _ => false
  | .lenM _ => false
  | .buildArr _ => false
  | .makeMemo => false
  | .memoGet _ _ _ _ => false
  | .memoSet _ _ _ => false
/-- A call stands ahead; then the operations l. -/
inductive CallG (P : Program) (f : FuncId) (vs : List AV) (d : Option Nat) (l : List Ins) (s : AS) (K : AS → Prop) : Prop
  | mk (r : AV) (h1 : ACalls P f vs r) (h2 : Run P l (s.put d r) K)
inductive CallSG (P : Program) (f : FuncId) (vs : List AV) (S : AStore) (ks : List Nat) (d : Option Nat) (l : List Ins) (env : Nat → AV) (K : AS → Prop) : Prop
  | mk (r : AV) (S' : AStore) (h1 : ACallsS P f vs (upS S) r S') (h2 : (∀ k ∈ ks, dnS S' k = S k) ∧ Run P l ((⟨env, dnS S'⟩ : AS).put d (r.ren dn1)) K)
inductive CallNG (P : Program) (f : FuncId) (vs : List AV) (ks : List Nat) (d : Option Nat) (l : List Ins) (s : AS) (K : AS → Prop) : Prop
  | mk (e : TypeId) (w : Nat) (ys : List (List SV)) (h1 : ACallsN P f vs e w ys) (h2 : s.S (d.getD 0) = none ∧ (∀ k ∈ ks, (s.set (d.getD 0) (.arow e w ys)).S k = s.S k) ∧ Run P l ((s.set (d.getD 0) (.arow e w ys)).put d (.one (.row (d.getD 0) ys.length))) K)
inductive CallRG (P : Program) (f : FuncId) (vs : List AV) (d : Option Nat) (l : List Ins) (s : AS) (K : AS → Prop) : Prop
  | mk (r : AV) (rows : List (Nat × ABlk)) (h0 : ∀ q ∈ rows, s.S q.1 = some q.2) (h1 : ∀ T : AStore, (∀ q ∈ rows, T q.1 = some q.2) → ACallsS P f vs (upS T) r (upS T)) (h2 : Run P l (s.put d (r.ren dn1)) K)
inductive CallWG (P : Program) (f : FuncId) (vs : List AV) (ks : List Nat) (d : Option Nat) (l : List Ins) (s : AS) (K : AS → Prop) : Prop
  | mk (r : AV) (rows : List (Nat × ABlk × ABlk)) (h0 : holdS s.S rows) (h1 : ∀ T : AStore, holdS T rows → ACallsS P f vs (upS T) r (upS (turnS T rows))) (h2 : (∀ k ∈ ks, turnS s.S rows k = s.S k) ∧ Run P l ((⟨s.env, turnS s.S rows⟩ : AS).put d (r.ren dn1)) K)
theorem hold_one {S : AStore} {i : Nat} {b c : ABlk} (h : S i = some b) : holdS S [(i, b, c)] := fun q hq => by rw [List.mem_singleton.1 hq]; exact h
theorem hold_at {S : AStore} {i : Nat} {b c : ABlk} (h : holdS S [(i, b, c)]) : S i = some b := h _ (List.mem_singleton.2 rfl)
theorem hold_two {S : AStore} {i j : Nat} {b c d e : ABlk} (h : S i = some b) (h' : S j = some d) : holdS S [(i, b, c), (j, d, e)] := fun q hq => by
  rcases List.mem_cons.1 hq with rfl | hq
  · exact h
  · rw [List.mem_singleton.1 hq]; exact h'
theorem hold_at1 {S : AStore} {i j : Nat} {b c d e : ABlk} (h : holdS S [(i, b, c), (j, d, e)]) : S i = some b := h _ List.mem_cons_self
theorem hold_at2 {S : AStore} {i j : Nat} {b c d e : ABlk} (h : holdS S [(i, b, c), (j, d, e)]) : S j = some d := h _ (List.mem_cons_of_mem _ (List.mem_singleton.2 rfl))
theorem rows_one {S : AStore} {i : Nat} {b : ABlk} (h : S i = some b) : ∀ q ∈ [(i, b)], S q.1 = some q.2 := fun q hq => by rw [List.mem_singleton.1 hq]; exact h
theorem rows_two {S : AStore} {i j : Nat} {b c : ABlk} (h : S i = some b) (h' : S j = some c) : ∀ q ∈ [(i, b), (j, c)], S q.1 = some q.2 := fun q hq => by
  rcases List.mem_cons.1 hq with rfl | hq
  · exact h
  · rw [List.mem_singleton.1 hq]; exact h'
def Kd.goC (P : Program) (d : Option Nat) (s : AS) (t : Tag) (l : List Ins) (K : AS → Prop) : Kd → Prop
  | .call f xs => match t with
    | .no => match outVs s.S (s.evs xs) with
      | some vs => CallG P f vs d l s K
      | none => False
    | _ => False
  | .callR f xs => match t with
    | .no => CallRG P f (AV.rens up1 (s.evs xs)) d l s K
    | _ => False
  | .callW f xs => match t with
    | .no => CallWG P f (AV.rens up1 (s.evs xs)) [] d l s K
    | .keeps ks => CallWG P f (AV.rens up1 (s.evs xs)) ks d l s K
    | .onb _ => False
  | .callN f xs => match t with
    | .no => match outVs s.S (s.evs xs) with
      | some vs => CallNG P f vs [] d l s K
      | none => False
    | .keeps ks => match outVs s.S (s.evs xs) with
      | some vs => CallNG P f vs ks d l s K
      | none => False
    | .onb _ => False
  | .callS f xs => match t with
    | .no => CallSG P f (AV.rens up1 (s.evs xs)) s.S [] d l s.env K
    | .keeps ks => CallSG P f (AV.rens up1 (s.evs xs)) s.S ks d l s.env K
    | .onb _ => False
  | .callV f xs => match s.ev f with
    | .one (.fn g caps) => plainF P g = true ∧ match t with
      | .no => CallSG P g (AV.rens up1 (s.evs xs ++ caps.map .one)) s.S [] d l s.env K
      | .keeps ks => CallSG P g (AV.rens up1 (s.evs xs ++ caps.map .one)) s.S ks d l s.env K
      | .onb _ => False
    | _ => False
  | _ => False
/-- Run, stopped at calls. -/
def Run2 (P : Program) : List Ins → AS → (AS → Prop) → Prop
  | [], s, K => K s
  | i :: l, s, K => match i.kd.isCall with
    | false => match i.guard with
      | none => i.kd.goT P (i.dst.getD 0) s i.tag fun v s' => Run2 P l (s'.put i.dst v) K
      | some (g, want) => match s.env g with
        | .one (.st (.bool b)) => (b = want → i.kd.goT P (i.dst.getD 0) s i.tag fun v s' => Run2 P l (s'.put i.dst v) K) ∧ (¬ b = want → Run2 P l (s.put i.dst (.tup [])) K)
        | .tup [] => Run2 P l (s.put i.dst (.tup [])) K
        | _ => False
    | true => match i.guard with
      | none => i.kd.goC P i.dst s i.tag l K
      | some (g, want) => match s.env g with
        | .one (.st (.bool b)) => (b = want → i.kd.goC P i.dst s i.tag l K) ∧ (¬ b = want → Run2 P l (s.put i.dst (.tup [])) K)
        | .tup [] => Run2 P l (s.put i.dst (.tup [])) K
        | _ => False
section
variable {P : Program}
theorem goC_run {kd : Kd} {d : Option Nat} {s : AS} {t : Tag} {l : List Ins} {K : AS → Prop} (h : kd.goC P d s t l K) : kd.goT P (d.getD 0) s t fun v s' => Run P l (s'.put d v) K := by
  cases kd <;> simp only [Kd.goC] at h
  case call f xs =>
    cases t <;> simp only at h
    split at h
    · rename_i vs e
      obtain ⟨r, h1, h2⟩ := h
      simp only [Kd.goT, Kd.go, e]
      exact ⟨r, h1, trivial, h2⟩
    · exact h.elim
  case callN f xs =>
    cases t <;> simp only at h
    · split at h
      · rename_i vs e
        obtain ⟨ty, w, ys, h1, h2, _, h3⟩ := h
        simp only [Kd.goT, Kd.go, e]
        exact ⟨ty, w, ys, h1, h2, trivial, h3⟩
      · exact h.elim
    · split at h
      · rename_i vs e
        obtain ⟨ty, w, ys, h1, h2, h4, h3⟩ := h
        simp only [Kd.goT, Kd.go, e]
        exact ⟨ty, w, ys, h1, h2, h4, h3⟩
      · exact h.elim
  case callW f xs =>
    cases t <;> simp only at h
    · obtain ⟨r, rows, h0, h1, _, h2⟩ := h
      simp only [Kd.goT, Kd.go]
      exact ⟨r, rows, h0, h1, trivial, h2⟩
    · obtain ⟨r, rows, h0, h1, hk, h2⟩ := h
      simp only [Kd.goT, Kd.go]
      exact ⟨r, rows, h0, h1, hk, h2⟩
  case callR f xs =>
    cases t <;> simp only at h
    obtain ⟨r, rows, h0, h1, h2⟩ := h
    simp only [Kd.goT, Kd.go]
    exact ⟨r, rows, h0, h1, trivial, h2⟩
  case callS f xs =>
    cases t <;> simp only at h
    · obtain ⟨r, S', h1, h2, h3⟩ := h
      exact ⟨r, S', h1, trivial, h3⟩
    · obtain ⟨r, S', h1, h2, h3⟩ := h
      exact ⟨r, S', h1, h2, h3⟩
  case callV f xs =>
    split at h
    · rename_i g caps e
      obtain ⟨hp, h⟩ := h
      cases t <;> simp only at h
      · obtain ⟨r, S', h1, h2, h3⟩ := h
        simp only [Kd.goT, Kd.go, e]
        exact ⟨hp, r, S', h1, trivial, h3⟩
      · obtain ⟨r, S', h1, h2, h3⟩ := h
        simp only [Kd.goT, Kd.go, e]
        exact ⟨hp, r, S', h1, h2, h3⟩
    · exact h.elim
theorem run2_run : ∀ {l : List Ins} {s : AS} {K : AS → Prop}, Run2 P l s K → Run P l s K
  | [], s, K, h => h
  | i :: l, s, K, h => by
    unfold Run2 at h
    unfold Run
    split at h
    · split at h
      · rename_i e
        simp only [e]
        exact goT_mono h fun v s' _ h' => run2_run h'
      · rename_i g want e
        simp only [e]
        split at h
        · rename_i b e2
          simp only [e2]
          exact ⟨fun hb => goT_mono (h.1 hb) fun v s' _ h' => run2_run h', fun hb => run2_run (h.2 hb)⟩
        · rename_i e2
          simp only [e2]
          exact run2_run h
        · exact h.elim
    · split at h
      · rename_i e
        simp only [e]
        exact goC_run h
      · rename_i g want e
        simp only [e]
        split at h
        · rename_i b e2
          simp only [e2]
          exact ⟨fun hb => goC_run (h.1 hb), fun hb => run2_run (h.2 hb)⟩
        · rename_i e2
          simp only [e2]
          exact run2_run h
        · exact h.elim
theorem keep_run2 {l : List Ins} {s : AS} {K : AS → Prop} {A : Prop} (h : A ∧ Run2 P l s K) : A ∧ Run P l s K := ⟨h.1, run2_run h.2⟩
theorem IWP.ops2 {C : Ctx} {mu : List Nat} {Q : AX → AS → Prop} {s : AS} {l : List Ins} (h : ∀ K : AS → Prop, (∀ s, Q .normal s → K s) → Run2 P l s K) : IWP P C mu (.ops l) Q s := IWP.opsK fun K hK => run2_run (h K hK)
end
-- the walk's own equations
attribute [go_sem] turnS Run2 Kd.isCall Kd.goC Kd.goT Tag.ok Kd.ptrOpd ptrIs List.forall_mem_cons List.not_mem_nil Kd.go AS.ev AS.evs AS.put AS.set updE AV.cells fills elems stC stCs outC outCs outV outVs flats blkCells idxK listOf cutOf lenOfA binI binS optI pack splice ABlk.len AS.start AS.startS noS List.getElem?_cons_zero List.getElem?_cons_succ List.getElem?_nil List.getElem?_map Option.isSome_none Option.isSome_some Option.map_some Option.map_none Option.getD_some Option.getD_none List.length_map List.length_cons List.length_nil List.length_append List.map_cons List.map_nil List.take_succ_cons List.take_zero List.take_nil List.drop_succ_cons List.drop_zero List.drop_nil List.nil_append List.cons_append List.append_nil Nat.zero_add Nat.add_zero Nat.le_refl Nat.zero_le if_true if_false Bool.false_eq_true true_and and_true Option.some.injEq Int.toNat_natCast Int.natCast_nonneg Int.ofNat_eq_natCast ite_self decide_true decide_false not_true_eq_false not_false_eq_true true_implies false_implies implies_true Bool.true_eq_false eq_self Bool.not_true Bool.not_false beq_self_eq_true Tm.args_mk Tm.name_mk AV.rens AV.ren AC.ren AC.rens ABlk.ren upS_up dn_up dnS_upd dn_upS

theorem upS_set (T : AStore) (i : Nat) (b : ABlk) : upS (updE T i (some b)) = updE (upS T) (up1 i) (some (b.ren up1)) := by
  funext k
  show (if k < 1000 then none else (updE T i (some b) (k - 1000)).map (ABlk.ren up1)) = _
  by_cases e : k = up1 i
  · subst e
    rw [updE_same, if_neg (by have := up1_le i; omega), show up1 i - 1000 = i from dn_up i, updE_same]
    rfl
  · rw [updE_ne _ e]
    by_cases hk : k < 1000
    · rw [if_pos hk]
      show none = if k < 1000 then none else _
      rw [if_pos hk]
    · rw [if_neg hk, updE_ne _ (fun h => e (by rw [← h]; exact (up_dn (by omega)).symm))]
      show _ = if k < 1000 then none else _
      rw [if_neg hk]
/-! short names for the rules -/
abbrev Wa := @IWP.seq
abbrev Wb := @seqQ_normal
abbrev Wc := @IWP.block
abbrev Wd := @IWP.skip
abbrev We := @IWP.exit
abbrev Wf := @IWP.ret
abbrev Wg := @seqQ_exit
abbrev Wh := @seqQ_ret
abbrev Wi := @inBlock_normal
abbrev Wj := @inBlock_here
abbrev Wk := @inBlock_away
abbrev Wl := @inBlock_ret
abbrev Wm := @then_exit
abbrev Wn := @then_ret
abbrev Wo := @IWP.ops2
abbrev Wp := @IWP.cond
abbrev Wq := @run2_run
abbrev Wr := @keep_run2

/-- All own blocks are forgotten; what stays is known. -/
theorem IWP.fresh {P : Program} {C : Ctx} {mu : List Nat} {x : IR} {Q : AX → AS → Prop} {s : AS} (h1000 : ∀ i, 1000 ≤ i → s.S i = none) (h : ∀ env' : Nat → AV, (∀ i v, s.env i = .one (.st v) → env' i = .one (.st v)) → IWP P C mu x Q ⟨env', noS⟩) : IWP P C mu x Q s := by
  refine IWP.ghost (Ghost.low (s := s) fun i b hi hb => by rw [h1000 i hi] at hb; cases hb) ?_
  have e : lowS s.S = noS := by
    funext i
    show (if i < 1000 then none else s.S i) = none
    split
    · rfl
    · exact h1000 i (by omega)
  rw [e]
  exact h _ fun i v hv => by rw [hv]; rfl
/-- What must hold between two pieces of code. -/
theorem IWP.mid {P : Program} {C : Ctx} {mu : List Nat} {x y : IR} {Q : AX → AS → Prop} {s : AS} (M : AS → Prop) (h1 : IWP P C mu x (fun e s => e = .normal ∧ M s) s) (h2 : ∀ s, M s → IWP P C mu y Q s) : IWP P C mu (x.seq y) Q s :=
  IWP.seq (h1.mono fun e s ⟨he, hm⟩ => by subst he; exact seqQ_normal (h2 s hm))
/-- What is shown once, and used where the code goes on behind two ways. -/
theorem once {R G : Prop} (f : R → G) (h : R) : G := f h
end Go.Proofs.Ytpajlfdhmjgpnaa

namespace Go.Proofs.Ytpajlfdhmjgpnaa
open Go Go.RowKit
set_option linter.unusedVariables false
set_option maxHeartbeats 400000

theorem updE_own {α : Type} (ι : Nat → α) (id : Nat) : updE ι id (ι id) = ι := by
  funext k
  unfold updE
  split
  · rename_i h; rw [h]
  · rfl
theorem Ghost.memoWeak {C : Ctx} {s : AS} {id : Nat} {f f' : List SV → List SV → SV → Prop} (hS : s.S id = some (.memo f)) (hf : ∀ cs ds x, f cs ds x → f' cs ds x) : Ghost C s (s.set id (.memo f')) := fun a w ⟨σ, ι, R⟩ => by
  have hb := R.blk _ _ hS
  cases hb with
  | @memo _ g ents h1 h2 h3 h4 =>
    obtain ⟨hu, R'⟩ := R.turn (w' := w) hS (.memo f') (ι id) (σ' := σ) (fun _ _ h => h) (fun _ _ _ => rfl) R.fit (Nat.le_refl _) (fun _ => ⟨rfl, rfl⟩) ⟨rfl, rfl, rfl⟩ (Nat.le_refl _) (fun _ _ _ => rfl) (fun g h => .inl h) (fun hu => .memo h1 h2 (h3.weak hf) h4)
    exact ⟨σ, _, R'⟩
/-- A box that is written no more: pointers to it lead to what stays. -/
theorem Ghost.freeze {C : Ctx} {s : AS} (id : Nat) (ts : List Nat) {ty : TypeId} {xs : List SV} (hS : s.S id = some (.box ty (xs.map .st))) (hl : 0 < xs.length) (ht : ∀ t ∈ ts, s.env t = .one (.ptr id 1 0 0)) :
    Ghost C s ⟨fun t => if t ∈ ts then .one (.eptr xs) else s.env t, updE s.S id (some (.dead 1 0))⟩ := fun a w ⟨σ, ι, R⟩ => by
  have hb := R.blk _ _ hS
  cases hb with
  | @box _ _ g vs h1 h2 h3 h4 h5 =>
    have hkeep := layS_keep (σ := σ) (w' := w) (g := g) (k := xs.length) (fun p x e hx => by rw [h5 _ e] at hx; cases hx)
    obtain ⟨hu, R'⟩ := R.turn (w' := w) hS (.dead 1 0) (ι id) (σ' := layS σ w g xs.length) hkeep (fun p hp _ => layS_out (fun e => hp (by rw [e]; exact h1))) (layS_fit R.fit) (Nat.le_refl _) (fun _ => ⟨rfl, rfl⟩) ⟨rfl, rfl, rfl⟩ (Nat.le_refl _) (fun _ _ _ => rfl) (fun g h => .inl h)
      (fun hu => .dead fun g' hg' => by rw [h1] at hg'; cases hg'; exact (Array.getElem?_eq_some_iff.1 h3).1)
    refine ⟨_, _, R'.size, fun i hi => ?_, R'.nod, R'.fit, R'.blk, R'.inj, R'.base, R'.ext, R'.old, R'.os, R'.grown, R'.same, R'.upd⟩
    show VRep _ _ _ _ (if i ∈ ts then .one (.eptr xs) else s.env i)
    split
    · rename_i hm
      have re := R.env i hi
      rw [ht i hm] at re
      obtain ⟨b, q1, q2, q3⟩ := arep_ptr (vrep_one re)
      rw [hS] at q1
      cases q1
      obtain ⟨g', e1, e2⟩ := q3 rfl
      rw [h1] at e1
      cases e1
      rw [e2]
      have cell : ∀ j x, xs[j]? = some x → ∃ v, vs[j]? = some v ∧ SRep σ v x := fun j x hx => by
        obtain ⟨v, v1, v2⟩ := h4.get (j := j) (b := .st x) (by rw [List.getElem?_map, hx]; rfl)
        exact ⟨v, by simpa using v1, arep_st v2⟩
      refine .one (.eptr (fun j => (vs[j]?).getD undef) (fun j x hx => ?_) (fun j x hx => ?_) (fun _ _ => ?_))
      · obtain ⟨v, v1, v2⟩ := cell j x hx
        have hj := (List.getElem?_eq_some_iff.1 hx).1
        rw [show (0 * (ABlk.box ty (xs.map AC.st)).wid + 0 + j) = j by omega, layS_in hj, cell_of_row w g _ _ _ _ h3, v1]
        rfl
      · obtain ⟨v, v1, v2⟩ := cell j x hx
        rw [v1]
        exact v2.mono hkeep
      · rw [layS_hard hl, look_hard h3]
    · exact R'.env i hi
end Go.Proofs.Ytpajlfdhmjgpnaa

namespace Go.Proofs.Ytpajlfdhmjgpnaa
open Go Go.RowKit
set_option maxRecDepth 100000

def ir_metaprune_order_paths_ask : IR :=
  (.seq
  (.ops
  [.mk (some 6) none (.mov (.c (.one (.st (.bool false)))))
  .no])
  (.seq
  (.seq
  (.ops
  [.mk (some 11) none (.mov (.t 1)) .no, .mk (some 12) none (.nilCheck (.t 11)) .no, .mk (some 13) none (.fieldAddr 1 (.t 12)) .no, .mk (some 14) none (.load false 1 (.t 13)) .no, .mk (some 15) none (.len false (.t 14)) .no, .mk (some 16) none (.mov (.c (.one (.st (.int .i64 0)))))
  .no])
  (.block 0
  (.loop
  (.seq
  (.ops
  [.mk (some 17) none (.bin .lss (.t 16) (.t 15))
  .no])
  (.seq (.cond (.t 17) .skip (.exit 0))
  (.seq
  (.block 1
  (.seq
  (.ops
  [.mk (some 18) none (.mov (.t 16)) .no, .mk (some 7) none (.mov (.t 18)) .no])
  (.seq
  (.ops
  [.mk (some 19) none (.mov (.t 1)) .no, .mk (some 20) none (.nilCheck (.t 19)) .no, .mk (some 21) none (.fieldAddr 1 (.t 20)) .no, .mk (some 22) none (.load false 1 (.t 21)) .no, .mk (some 23) none (.mov (.t 7)) .no, .mk (some 24) none (.indexAddr 2 (.t 22) (.t 23))
  .no, .mk (some 25) none (.load true 2 (.t 24)) .no, .mk (some 26) none (.mov (.t 2)) .no, .mk (some 27) none (.nilCheck (.t 26)) .no, .mk (some 28) none (.load true 2 (.t 27)) .no, .mk (some 29) none (.call 76 [.t 25, .t 28])
  .no, .mk (some 30) none (.mov (.t 29)) .no, .mk (some 31) (some (30, false)) (.mov (.t 0)) .no, .mk (some 32) (some (30, false)) (.mov (.t 1)) .no, .mk (some 33) (some (30, false)) (.nilCheck (.t 32)) .no, .mk (some 34) (some (30, false)) (.fieldAddr 1 (.t 33)) .no, .mk (some 35) (some (30, false)) (.load false 1 (.t 34))
  .no, .mk (some 36) (some (30, false)) (.mov (.t 7)) .no, .mk (some 37) (some (30, false)) (.indexAddr 2 (.t 35) (.t 36))
  .no, .mk (some 38) (some (30, false)) (.mov (.t 2)) .no, .mk (some 39) (some (30, false))
  (.callR 72 [.t 31, .t 37, .t 38]) .no, .mk (some 40) none
  (.pick (.t 30) (.c (.one (.st (.bool true)))) (.t 39))
  .no])
  (.cond (.t 40)
  (.seq
  (.ops
  [.mk (some 6) none (.mov (.c (.one (.st (.bool true)))))
  .no])
  .ret)
  .skip))))
  (.ops
  [.mk (some 41) none (.bin .add (.t 16) (.c (.one (.st (.int .i64 1)))))
  .no, .mk (some 16) none (.mov (.t 41)) .no])))))))
  (.seq
  (.seq
  (.ops
  [.mk (some 42) none (.mov (.t 2)) .no, .mk (some 43) none (.nilCheck (.t 42)) .no, .mk (some 44) none (.fieldAddr 0 (.t 43)) .no, .mk (some 45) none (.load false 1 (.t 44)) .no, .mk (some 46) none (.call 61 [.t 45]) .no])
  (.cond (.t 46)
  (.seq
  (.ops
  [.mk (some 6) none (.mov (.c (.one (.st (.bool false)))))
  .no])
  .ret)
  .skip))
  (.seq
  (.ops
  [.mk (some 47) none (.mov (.t 0)) .no, .mk (some 48) none (.nilCheck (.t 47)) .no, .mk (some 49) none (.fieldAddr 0 (.t 48)) .no, .mk (some 50) none (.load false 1 (.t 49)) .no, .mk (some 51) none (.mov (.t 1)) .no, .mk (some 52) none (.nilCheck (.t 51)) .no, .mk (some 53) none (.load true 2 (.t 52)) .no, .mk (some 54) none (.mov (.t 2)) .no, .mk (some 55) none (.nilCheck (.t 54)) .no, .mk (some 56) none (.load true 2 (.t 55)) .no, .mk (some 57) none (.call 75 [.t 50, .t 53, .t 56])
  .no, .mk (some 8) none (.mov (.t 57)) .no])
  (.seq
  (.seq
  (.ops
  [.mk (some 58) none (.mov (.t 8)) .no, .mk (some 59) none (.bin .lss (.t 58) (.c (.one (.st (.int .i64 0)))))
  .no])
  (.cond (.t 59)
  (.seq
  (.ops
  [.mk (some 6) none (.mov (.c (.one (.st (.bool false)))))
  .no])
  .ret)
  .skip))
  (.seq
  (.seq
  (.ops
  [.mk (some 60) none (.mov (.t 2)) .no, .mk (some 61) none (.nilCheck (.t 60)) .no, .mk (some 62) none (.fieldAddr 1 (.t 61)) .no, .mk (some 63) none (.load false 1 (.t 62)) .no, .mk (some 64) none (.len false (.t 63)) .no, .mk (some 65) none (.mov (.c (.one (.st (.int .i64 0)))))
  .no])
  (.block 2
  (.loop
  (.seq
  (.ops
  [.mk (some 66) none (.bin .lss (.t 65) (.t 64))
  .no])
  (.seq (.cond (.t 66) .skip (.exit 2))
  (.seq
  (.block 3
  (.seq
  (.ops
  [.mk (some 67) none (.mov (.t 65)) .no, .mk (some 9) none (.mov (.t 67)) .no])
  (.seq
  (.ops
  [.mk (some 68) none (.mov (.t 0)) .no, .mk (some 69) none (.mov (.t 1)) .no, .mk (some 70) none (.mov (.t 2)) .no, .mk (some 71) none (.nilCheck (.t 70)) .no, .mk (some 72) none (.fieldAddr 1 (.t 71)) .no, .mk (some 73) none (.load false 1 (.t 72)) .no, .mk (some 74) none (.mov (.t 9)) .no, .mk (some 75) none (.indexAddr 2 (.t 73) (.t 74))
  .no, .mk (some 76) none
  (.callR 72 [.t 68, .t 69, .t 75]) .no, .mk (some 77) none (.un .not (.t 76)) .no])
  (.cond (.t 77)
  (.seq
  (.ops
  [.mk (some 6) none (.mov (.c (.one (.st (.bool false)))))
  .no])
  .ret)
  .skip))))
  (.ops
  [.mk (some 78) none (.bin .add (.t 65) (.c (.one (.st (.int .i64 1)))))
  .no, .mk (some 65) none (.mov (.t 78)) .no])))))))
  (.seq
  (.seq
  (.ops
  [.mk (some 79) none (.mov (.t 8)) .no, .mk (some 80) none (.bin .gtr (.t 79) (.c (.one (.st (.int .i64 0)))))
  .no])
  (.cond (.t 80)
  (.seq
  (.ops
  [.mk (some 6) none (.mov (.c (.one (.st (.bool true)))))
  .no])
  .ret)
  .skip))
  (.seq
  (.seq
  (.ops
  [.mk (some 81) none (.mov (.t 1)) .no, .mk (some 82) none (.nilCheck (.t 81)) .no, .mk (some 83) none (.fieldAddr 1 (.t 82)) .no, .mk (some 84) none (.load false 1 (.t 83)) .no, .mk (some 85) none (.len false (.t 84)) .no, .mk (some 86) none (.mov (.c (.one (.st (.int .i64 0)))))
  .no])
  (.block 4
  (.loop
  (.seq
  (.ops
  [.mk (some 87) none (.bin .lss (.t 86) (.t 85))
  .no])
  (.seq (.cond (.t 87) .skip (.exit 4))
  (.seq
  (.block 5
  (.seq
  (.ops
  [.mk (some 88) none (.mov (.t 86)) .no, .mk (some 10) none (.mov (.t 88)) .no])
  (.seq
  (.ops
  [.mk (some 89) none (.mov (.t 1)) .no, .mk (some 90) none (.nilCheck (.t 89)) .no, .mk (some 91) none (.fieldAddr 1 (.t 90)) .no, .mk (some 92) none (.load false 1 (.t 91)) .no, .mk (some 93) none (.mov (.t 10)) .no, .mk (some 94) none (.indexAddr 2 (.t 92) (.t 93))
  .no, .mk (some 95) none (.load true 2 (.t 94)) .no, .mk (some 96) none (.mov (.t 2)) .no, .mk (some 97) none (.nilCheck (.t 96)) .no, .mk (some 98) none (.fieldAddr 1 (.t 97)) .no, .mk (some 99) none (.load false 1 (.t 98)) .no, .mk (some 100) none (.mov (.t 10)) .no, .mk (some 101) none (.indexAddr 2 (.t 99) (.t 100))
  .no, .mk (some 102) none (.load true 2 (.t 101)) .no, .mk (some 103) none (.call 76 [.t 95, .t 102])
  .no, .mk (some 104) none (.un .not (.t 103)) .no])
  (.cond (.t 104)
  (.seq
  (.ops
  [.mk (some 105) none (.mov (.t 0)) .no, .mk (some 106) none (.mov (.t 1)) .no, .mk (some 107) none (.nilCheck (.t 106)) .no, .mk (some 108) none (.fieldAddr 1 (.t 107)) .no, .mk (some 109) none (.load false 1 (.t 108))
  .no, .mk (some 110) none (.mov (.t 10)) .no, .mk (some 111) none (.indexAddr 2 (.t 109) (.t 110))
  .no, .mk (some 112) none (.mov (.t 2)) .no, .mk (some 113) none (.nilCheck (.t 112)) .no, .mk (some 114) none (.fieldAddr 1 (.t 113)) .no, .mk (some 115) none (.load false 1 (.t 114))
  .no, .mk (some 116) none (.mov (.t 10)) .no, .mk (some 117) none (.indexAddr 2 (.t 115) (.t 116))
  .no, .mk (some 118) none
  (.callR 72 [.t 105, .t 111, .t 117])
  .no, .mk (some 6) none (.mov (.t 118)) .no])
  .ret)
  .skip))))
  (.ops
  [.mk (some 119) none (.bin .add (.t 86) (.c (.one (.st (.int .i64 1)))))
  .no, .mk (some 86) none (.mov (.t 119)) .no])))))))
  (.seq
  (.ops
  [.mk (some 6) none (.mov (.c (.one (.st (.bool false)))))
  .no])
  .ret)))))))))
theorem tr_metaprune_order_paths_ask : trCode Try.prog 120 [40000039, 40000076, 40000118] (Try.f83.body.getD .skip) = some ir_metaprune_order_paths_ask := by kernel_rfl
theorem ac_metaprune_order_paths_ask {xs : List AV} {r : AV} (hn : xs.length ≤ 120) (h : ∀ C : Ctx, C.n = 120 → IWP Try.prog C [40000039, 40000076, 40000118] ir_metaprune_order_paths_ask (FinQ [.t 6] r) (AS.start xs)) : ACalls Try.prog 83 xs r :=
  acalls_of Try.func83 rfl tr_metaprune_order_paths_ask rfl hn h
theorem acS_metaprune_order_paths_ask {xs : List AV} {S S' : AStore} {r : AV} (hn : xs.length ≤ 120) (h : Clean S → ∀ C : Ctx, C.n = 120 → IWP Try.prog C [40000039, 40000076, 40000118] ir_metaprune_order_paths_ask (FinS C [.t 6] r S') (AS.startS xs S)) : ACallsS Try.prog 83 xs S r S' :=
  acallsS_of Try.func83 rfl tr_metaprune_order_paths_ask rfl hn h

def ir_metaprune_order_paths_above : IR :=
  (.seq
  (.ops
  [.mk (some 6) none (.mov (.c (.one (.st (.bool false)))))
  .no])
  (.seq
  (.seq
  (.ops
  [.mk (some 11) none (.mov (.t 1)) .no, .mk (some 12) none (.nilCheck (.t 11)) .no, .mk (some 13) none (.fieldAddr 0 (.t 12)) .no, .mk (some 14) none (.load false 1 (.t 13)) .no, .mk (some 15) none (.call 61 [.t 14]) .no])
  (.cond (.t 15)
  (.seq
  (.ops
  [.mk (some 6) none (.mov (.c (.one (.st (.bool false)))))
  .no])
  .ret)
  .skip))
  (.seq
  (.ops
  [.mk (some 16) none (.mov (.t 1)) .no, .mk (some 17) none (.mov (.t 2)) .no, .mk (some 18) none (.buildArr [.t 16, .t 17]) .no, .mk (some 7) none
  (.alloc 102
  [.st (.lit (.pointer none)), .st (.lit (.pointer none))])
  .no, .mk none none (.store 2 (.t 7) (.t 18)) .no])
  (.seq
  (.seq
  (.ops
  [.mk (some 20) none (.mov (.t 0)) .no, .mk (some 21) none (.nilCheck (.t 20)) .no, .mk (some 22) none (.fieldAddr 1 (.t 21)) .no, .mk (some 23) none (.load false 1 (.t 22)) .no, .mk (some 24) none (.load true 2 (.t 7)) .no, .mk (some 25) none
  (.memoGet true (.one (.st (.bool false))) (.t 23) (.t 24))
  .no, .mk (some 19) none (.mov (.t 25)) .no, .mk (some 26) none (.extract 0 (.t 19)) .no, .mk (some 27) none (.extract 1 (.t 19)) .no, .mk (some 8) none (.mov (.t 26)) .no, .mk (some 9) none (.mov (.t 27)) .no])
  (.seq
  (.ops [.mk (some 28) none (.mov (.t 9)) .no])
  (.cond (.t 28)
  (.seq
  (.ops
  [.mk (some 29) none (.mov (.t 8)) .no, .mk (some 6) none (.mov (.t 29)) .no])
  .ret)
  .skip)))
  (.seq
  (.ops
  [.mk (some 30) none (.mov (.t 0)) .no, .mk (some 31) none (.mov (.t 1)) .no, .mk (some 32) none (.mov (.t 2)) .no, .mk (some 33) none
  (.callR 83 [.t 30, .t 31, .t 32]) .no, .mk (some 10) none (.mov (.t 33)) .no])
  (.seq
  (.ops
  [.mk (some 34) none (.mov (.t 0)) .no, .mk (some 35) none (.nilCheck (.t 34)) .no, .mk (some 36) none (.fieldAddr 1 (.t 35)) .no, .mk (some 37) none (.load false 1 (.t 36)) .no, .mk (some 38) none (.load true 2 (.t 7)) .no, .mk (some 39) none (.mov (.t 10)) .no, .mk none none (.memoSet (.t 37) (.t 38) (.t 39))
  .no])
  (.seq
  (.ops
  [.mk (some 40) none (.mov (.t 10)) .no, .mk (some 6) none (.mov (.t 40)) .no])
  .ret)))))))
theorem tr_metaprune_order_paths_above : trCode Try.prog 41 [40000033] (Try.f72.body.getD .skip) = some ir_metaprune_order_paths_above := by kernel_rfl
theorem ac_metaprune_order_paths_above {xs : List AV} {r : AV} (hn : xs.length ≤ 41) (h : ∀ C : Ctx, C.n = 41 → IWP Try.prog C [40000033] ir_metaprune_order_paths_above (FinQ [.t 6] r) (AS.start xs)) : ACalls Try.prog 72 xs r :=
  acalls_of Try.func72 rfl tr_metaprune_order_paths_above rfl hn h
theorem acS_metaprune_order_paths_above {xs : List AV} {S S' : AStore} {r : AV} (hn : xs.length ≤ 41) (h : Clean S → ∀ C : Ctx, C.n = 41 → IWP Try.prog C [40000033] ir_metaprune_order_paths_above (FinS C [.t 6] r S') (AS.startS xs S)) : ACallsS Try.prog 72 xs S r S' :=
  acallsS_of Try.func72 rfl tr_metaprune_order_paths_above rfl hn h

def ir_order_Above : IR :=
  (.seq
  (.ops
  [.mk (some 4) none (.box 24 (.t 1)) .no, .mk (some 5) none (.box 24 (.t 2)) .no, .mk (some 6) none (.mov (.c (.one (.st (.bool false)))))
  .no])
  (.seq
  (.ops
  [.mk (some 8) none (.mov (.t 0)) .no, .mk (some 9) none .makeMemo .no, .mk (some 10) none
  (.build [.full [], .st (.lit (.map none))]
  [(0, 1, .t 8), (1, 1, .t 9)])
  .no, .mk (some 11) none (.box 92 (.t 10)) .no, .mk (some 7) none (.mov (.t 11)) .no])
  (.seq
  (.ops
  [.mk (some 12) none (.mov (.t 7)) .no, .mk (some 13) none (.callR 72 [.t 12, .t 4, .t 5])
  .no, .mk (some 6) none (.mov (.t 13)) .no])
  .ret)))
theorem tr_order_Above : trCode Try.prog 14 [40000013] (Try.f58.body.getD .skip) = some ir_order_Above := by kernel_rfl
theorem ac_order_Above {xs : List AV} {r : AV} (hn : xs.length ≤ 14) (h : ∀ C : Ctx, C.n = 14 → IWP Try.prog C [40000013] ir_order_Above (FinQ [.t 6] r) (AS.start xs)) : ACalls Try.prog 58 xs r :=
  acalls_of Try.func58 rfl tr_order_Above rfl hn h
theorem acS_order_Above {xs : List AV} {S S' : AStore} {r : AV} (hn : xs.length ≤ 14) (h : Clean S → ∀ C : Ctx, C.n = 14 → IWP Try.prog C [40000013] ir_order_Above (FinS C [.t 6] r S') (AS.startS xs S)) : ACallsS Try.prog 58 xs S r S' :=
  acallsS_of Try.func58 rfl tr_order_Above rfl hn h

def ir_order_Path : IR :=
  (.seq
  (.ops
  [.mk (some 4) none (.box 24 (.t 1)) .no, .mk (some 5) none (.box 24 (.t 2)) .no, .mk (some 6) none (.mov (.c (.one (.st (.bool false)))))
  .no, .mk (some 7) none (.mov (.c (.one (.st (.int .i64 0)))))
  .no])
  (.seq
  (.seq
  (.ops
  [.mk (some 9) none (.mov (.t 0)) .no, .mk (some 10) none (.load true 2 (.t 4)) .no, .mk (some 11) none (.load true 2 (.t 5)) .no, .mk (some 12) none (.call 57 [.t 9, .t 10, .t 11])
  .no, .mk (some 8) none (.mov (.t 12)) .no])
  (.seq
  (.ops
  [.mk (some 13) none (.mov (.t 8)) .no, .mk (some 14) none (.bin .neq (.t 13) (.c (.one (.st (.int .i64 0)))))
  .no])
  (.cond (.t 14)
  (.seq
  (.ops
  [.mk (some 15) none (.mov (.t 8)) .no, .mk (some 6) none (.mov (.c (.one (.st (.bool false)))))
  .no, .mk (some 7) none (.mov (.t 15)) .no])
  .ret)
  .skip)))
  (.seq
  (.ops
  [.mk (some 16) none (.mov (.t 0)) .no, .mk (some 17) none (.load true 2 (.t 4)) .no, .mk (some 18) none (.load true 2 (.t 5)) .no, .mk (some 19) none (.call 58 [.t 16, .t 17, .t 18])
  .no, .mk (some 6) none (.mov (.t 19)) .no, .mk (some 7) none (.mov (.c (.one (.st (.int .i64 0)))))
  .no])
  .ret)))
theorem tr_order_Path : trCode Try.prog 20 [] (Try.f31.body.getD .skip) = some ir_order_Path := by kernel_rfl
theorem ac_order_Path {xs : List AV} {r : AV} (hn : xs.length ≤ 20) (h : ∀ C : Ctx, C.n = 20 → IWP Try.prog C [] ir_order_Path (FinQ [.t 6, .t 7] r) (AS.start xs)) : ACalls Try.prog 31 xs r :=
  acalls_of Try.func31 rfl tr_order_Path rfl hn h
theorem acS_order_Path {xs : List AV} {S S' : AStore} {r : AV} (hn : xs.length ≤ 20) (h : Clean S → ∀ C : Ctx, C.n = 20 → IWP Try.prog C [] ir_order_Path (FinS C [.t 6, .t 7] r S') (AS.startS xs S)) : ACallsS Try.prog 31 xs S r S' :=
  acallsS_of Try.func31 rfl tr_order_Path rfl hn h

end Go.Proofs.Ytpajlfdhmjgpnaa

namespace Go.Proofs.Ytpajlfdhmjgpnaa
open Go Go.RowKit
set_option linter.unusedVariables false

def letterI (n : Int) : Bool := decide (97 ≤ n ∧ n ≤ 122) || decide (65 ≤ n ∧ n ≤ 90) || decide (48 ≤ n ∧ n ≤ 57)
def byteAt (s : ByteArray) (k : Nat) : Int := ((s.data.toList.getD k 0).toNat : Int)
theorem byteAt_get (s : ByteArray) (k : Nat) (h : k < s.size) : ((s[k]'h).toNat : Int) = byteAt s k := by
  unfold byteAt
  have h2 : k < s.data.toList.length := by simpa using h
  rw [List.getD_eq_getElem?_getD, List.getElem?_eq_getElem h2]
  rfl
theorem byteAt_range (s : ByteArray) (k : Nat) : 0 ≤ byteAt s k ∧ byteAt s k ≤ 255 := by
  unfold byteAt
  have := (s.data.toList.getD k 0).toNat_lt
  omega
def isVar (s : ByteArray) : Bool := decide (0 < s.size) && decide (65 ≤ byteAt s 0) && decide (byteAt s 0 ≤ 90)
def lettersTo (s : ByteArray) (k : Nat) : Bool := (s.data.toList.take k).all fun c => letterI c.toNat
def nameOk (s : ByteArray) : Bool := decide (1 ≤ s.size) && decide (s.size ≤ 8) && !(decide (48 ≤ byteAt s 0) && decide (byteAt s 0 ≤ 57)) && lettersTo s s.size
theorem lettersTo_succ (s : ByteArray) (k : Nat) (h : k < s.size) : lettersTo s (k + 1) = (lettersTo s k && letterI (byteAt s k)) := by
  unfold lettersTo byteAt
  have h2 : k < s.data.toList.length := by simpa using h
  rw [List.take_add_one, List.getD_eq_getElem?_getD, List.getElem?_eq_getElem h2]
  simp
theorem lettersTo_no (s : ByteArray) (k : Nat) (h : k < s.size) (hn : letterI (byteAt s k) = false) : lettersTo s s.size = false := by
  unfold lettersTo byteAt at *
  have h2 : k < s.data.toList.length := by simpa using h
  rw [List.getD_eq_getElem?_getD, List.getElem?_eq_getElem h2] at hn
  rw [List.all_eq_false]
  refine ⟨s.data.toList[k], ?_, by simpa using hn⟩
  rw [List.take_of_length_le (by simp)]
  exact List.getElem_mem h2
theorem toList_nil (s : ByteArray) : s.toList = [] ↔ s.size = 0 := by
  rw [ByteArray.toList_eq]
  constructor
  · intro h
    have := congrArg List.length h
    simpa using this
  · intro h
    exact List.eq_nil_of_length_eq_zero (by simpa using h)



mutual
def Tm.size : Tm → Nat
  | .mk _ xs => 1 + Tm.sizes xs
def Tm.sizes : List Tm → Nat
  | [] => 0
  | t :: ts => t.size + Tm.sizes ts
end
theorem Tm.sizes_append (xs ys : List Tm) : Tm.sizes (xs ++ ys) = Tm.sizes xs + Tm.sizes ys := by
  induction xs with
  | nil => simp [Tm.sizes]
  | cons t ts ih => simp only [List.cons_append, Tm.sizes, ih]; omega
theorem Tm.sizes_take {xs : List Tm} {k : Nat} {a : Tm} (h : xs[k]? = some a) : Tm.sizes (xs.take (k+1)) = Tm.sizes (xs.take k) + a.size := by
  rw [take_snoc h, Tm.sizes_append]; simp [Tm.sizes]
theorem Tm.sizes_take_le (xs : List Tm) (k : Nat)  : Tm.sizes (xs.take k) ≤ Tm.sizes xs := by
  have := Tm.sizes_append (xs.take k) (xs.drop k)
  rw [List.take_append_drop] at this
  omega
theorem Tm.size_eq (t : Tm) : t.size = 1 + Tm.sizes t.args := by cases t; rfl
theorem Tm.size_pos (t : Tm) : 1 ≤ t.size := by rw [Tm.size_eq]; omega
theorem Tm.size_mem {a : Tm} {xs : List Tm} (h : a ∈ xs) : a.size ≤ Tm.sizes xs := by
  induction xs with
  | nil => simp at h
  | cons t ts ih =>
    rcases List.mem_cons.1 h with rfl | h
    · simp only [Tm.sizes]; omega
    · have := ih h; simp only [Tm.sizes]; omega
theorem Tm.length_le (xs : List Tm) : xs.length ≤ Tm.sizes xs := by
  induction xs with
  | nil => simp [Tm.sizes]
  | cons t ts ih => have := Tm.size_pos t; simp only [Tm.sizes, List.length_cons]; omega
theorem Tm.lt_of_arg {a t : Tm} (h : a ∈ t.args) : SizeOf.sizeOf a < SizeOf.sizeOf t := by
  cases t
  exact Tm.lt_of_mem h
/-- m less s, but -1 at the least -/
def lessBy (s : Nat) (m : Int) : Int := if m < s then -1 else m - s
/-- s, but m + 1 at the most -/
def capTo (s : Nat) (m : Int) : Int := if m < s then m + 1 else s



mutual
def Tm.knots : Tm → List Tm
  | .mk n xs => .mk n xs :: Tm.knotsL xs
def Tm.knotsL : List Tm → List Tm
  | [] => []
  | t :: ts => t.knots ++ Tm.knotsL ts
end
theorem Tm.knots_eq (t : Tm) : t.knots = t :: Tm.knotsL t.args := by cases t; rfl
theorem Tm.knotsL_append (xs ys : List Tm) : Tm.knotsL (xs ++ ys) = Tm.knotsL xs ++ Tm.knotsL ys := by
  induction xs with
  | nil => simp [Tm.knotsL]
  | cons t ts ih => simp [Tm.knotsL, ih]
theorem Tm.knotsL_take {xs : List Tm} {k : Nat} {a : Tm} (h : xs[k]? = some a) : Tm.knotsL (xs.take (k+1)) = Tm.knotsL (xs.take k) ++ a.knots := by
  rw [take_snoc h, Tm.knotsL_append]; simp [Tm.knotsL]
mutual
theorem Tm.knots_length : ∀ t : Tm, t.knots.length = t.size
  | .mk n xs => by simp only [Tm.knots, Tm.size, List.length_cons, Tm.knotsL_length xs]; omega
theorem Tm.knotsL_length : ∀ xs : List Tm, (Tm.knotsL xs).length = Tm.sizes xs
  | [] => rfl
  | t :: ts => by simp only [Tm.knotsL, Tm.sizes, List.length_append, Tm.knots_length t, Tm.knotsL_length ts]
end


def chkOne (t : Tm) : Int := if nameOk t.name = true then (if isVar t.name = true ∧ 0 < t.args.length then 2 else 0) else 1
mutual
def Tm.chk : Tm → Int
  | .mk n xs => if chkOne (.mk n xs) = 0 then Tm.chkL xs else chkOne (.mk n xs)
def Tm.chkL : List Tm → Int
  | [] => 0
  | t :: ts => if t.chk = 0 then Tm.chkL ts else t.chk
end
def firstErr : List Tm → Int
  | [] => 0
  | t :: ts => if chkOne t = 0 then firstErr ts else chkOne t
theorem Tm.chk_eq (t : Tm) : t.chk = if chkOne t = 0 then Tm.chkL t.args else chkOne t := by cases t; rfl
theorem firstErr_append (xs ys : List Tm) : firstErr (xs ++ ys) = if firstErr xs = 0 then firstErr ys else firstErr xs := by
  induction xs with
  | nil => simp [firstErr]
  | cons t ts ih =>
    simp only [List.cons_append, firstErr]
    by_cases h : chkOne t = 0
    · simp only [h, if_true, ih]
    · simp only [h, if_false]
mutual
theorem Tm.firstErr_knots : ∀ t : Tm, firstErr t.knots = t.chk
  | .mk n xs => by
    simp only [Tm.knots, firstErr, Tm.chk]
    split
    · exact Tm.firstErr_knotsL xs
    · rfl
theorem Tm.firstErr_knotsL : ∀ xs : List Tm, firstErr (Tm.knotsL xs) = Tm.chkL xs
  | [] => rfl
  | t :: ts => by
    simp only [Tm.knotsL, firstErr_append, Tm.firstErr_knots t, Tm.firstErr_knotsL ts, Tm.chkL]
end
theorem Tm.chkL_append (xs ys : List Tm) : Tm.chkL (xs ++ ys) = if Tm.chkL xs = 0 then Tm.chkL ys else Tm.chkL xs := by
  induction xs with
  | nil => simp [Tm.chkL]
  | cons t ts ih =>
    simp only [List.cons_append, Tm.chkL]
    by_cases h : t.chk = 0
    · simp only [h, if_true, ih]
    · simp only [h, if_false]
theorem Tm.chkL_get {xs : List Tm} {k : Nat} {a : Tm} (h : xs[k]? = some a) (h0 : Tm.chkL (xs.take k) = 0) : (a.chk = 0 → Tm.chkL (xs.take (k+1)) = 0) ∧ (a.chk ≠ 0 → Tm.chkL xs = a.chk) := by
  constructor
  · intro ha
    rw [take_snoc h, Tm.chkL_append, if_pos h0]
    simp [Tm.chkL, ha]
  · intro ha
    rw [← List.take_append_drop k xs, Tm.chkL_append, if_pos h0]
    have hd : xs.drop k = a :: xs.drop (k+1) := by
      have hk := lt_of_get h
      rw [List.getElem?_eq_getElem hk] at h
      rw [List.drop_eq_getElem_cons hk]
      simp at h
      rw [h]
    rw [hd]
    simp [Tm.chkL, ha]
theorem firstErr_get {xs : List Tm} {k : Nat} {a : Tm} (h : xs[k]? = some a) (h0 : firstErr (xs.take k) = 0) : (chkOne a = 0 → firstErr (xs.take (k+1)) = 0) ∧ (chkOne a ≠ 0 → firstErr xs = chkOne a) := by
  constructor
  · intro ha
    rw [take_snoc h, firstErr_append, if_pos h0]
    simp [firstErr, ha]
  · intro ha
    rw [← List.take_append_drop k xs, firstErr_append, if_pos h0]
    have hd : xs.drop k = a :: xs.drop (k+1) := by
      have hk := lt_of_get h
      rw [List.getElem?_eq_getElem hk] at h
      rw [List.drop_eq_getElem_cons hk]
      simp at h
      rw [h]
    rw [hd]
    simp [firstErr, ha]
/-- may it be? 0: yes; else what is wrong. -/
def Tm.may (t : Tm) : Int := if 200 < t.size then 3 else t.chk
theorem chkOne_range (t : Tm) : 0 ≤ chkOne t ∧ chkOne t ≤ 2 := by unfold chkOne; split <;> (try split) <;> omega
mutual
theorem Tm.chk_range : ∀ t : Tm, 0 ≤ t.chk ∧ t.chk ≤ 2
  | .mk n xs => by
    have h1 := chkOne_range (.mk n xs)
    have h2 := Tm.chkL_range xs
    simp only [Tm.chk]
    split <;> omega
theorem Tm.chkL_range : ∀ xs : List Tm, 0 ≤ Tm.chkL xs ∧ Tm.chkL xs ≤ 2
  | [] => by simp [Tm.chkL]
  | t :: ts => by
    have h1 := Tm.chk_range t
    have h2 := Tm.chkL_range ts
    simp only [Tm.chkL]
    split <;> omega
end
theorem Tm.may_range (t : Tm) : 0 ≤ t.may ∧ t.may ≤ 3 := by
  have := Tm.chk_range t
  unfold Tm.may
  split <;> omega
theorem ne_true {a : Int} (h : a ≠ 0) : (a != 0) = true := by simpa using h
theorem eq_false' {a : Int} (h : a ≠ 0) : (a == 0) = false := by simpa using h


def isIn (x : ByteArray) (l : List ByteArray) : Bool := l.any fun y => decide (y = x)
theorem isIn_iff {x : ByteArray} {l : List ByteArray} : isIn x l = true ↔ x ∈ l := by simp [isIn]
theorem isIn_no {x : ByteArray} {l : List ByteArray} : isIn x l = false ↔ x ∉ l := by rw [← Bool.not_eq_true, isIn_iff]


/-- one name more, if it is a variable's and new -/
def addVar (l : List ByteArray) (n : ByteArray) : List ByteArray := if isVar n && !isIn n l then l ++ [n] else l
def addVars (l : List ByteArray) (ks : List Tm) : List ByteArray := ks.foldl (fun l t => addVar l t.name) l
def Tm.varsOf (t : Tm) : List ByteArray := addVars [] t.knots
theorem addVars_nil (l : List ByteArray) : addVars l [] = l := rfl
theorem addVars_snoc (l : List ByteArray) (ks : List Tm) (t : Tm) : addVars l (ks ++ [t]) = addVar (addVars l ks) t.name := by simp [addVars]
theorem addVars_append (l : List ByteArray) (ks ms : List Tm) : addVars l (ks ++ ms) = addVars (addVars l ks) ms := by simp [addVars]
theorem addVar_yes {l : List ByteArray} {n : ByteArray} (h : isVar n = true) (h' : isIn n l = false) : addVar l n = l ++ [n] := by simp [addVar, h, h']
theorem addVar_in {l : List ByteArray} {n : ByteArray} (h' : isIn n l = true) : addVar l n = l := by simp [addVar, h']
theorem addVar_no {l : List ByteArray} {n : ByteArray} (h : isVar n = false) : addVar l n = l := by simp [addVar, h]
theorem addVar_length (l : List ByteArray) (n : ByteArray) : (addVar l n).length ≤ l.length + 1 := by unfold addVar; split <;> simp
theorem addVars_length : ∀ (ks : List Tm) (l : List ByteArray), (addVars l ks).length ≤ l.length + ks.length
  | [], l => by simp [addVars_nil]
  | t :: ts, l => by
    have h1 := addVars_length ts (addVar l t.name)
    have h2 := addVar_length l t.name
    have h3 : addVars l (t :: ts) = addVars (addVar l t.name) ts := rfl
    rw [h3, List.length_cons]
    omega



mutual
def Tm.places : Tm → List (List Int)
  | .mk _ xs => [] :: Tm.placesFrom 0 xs
def Tm.placesFrom : Nat → List Tm → List (List Int)
  | _, [] => []
  | k, t :: ts => t.places.map (fun p => (k : Int) :: p) ++ Tm.placesFrom (k+1) ts
end
theorem Tm.places_eq (t : Tm) : t.places = [] :: Tm.placesFrom 0 t.args := by cases t; rfl
theorem Tm.placesFrom_snoc (a : Tm) : ∀ (k : Nat) (xs : List Tm), Tm.placesFrom k (xs ++ [a]) = Tm.placesFrom k xs ++ a.places.map (fun p => ((k + xs.length : Nat) : Int) :: p)
  | k, [] => by simp [Tm.placesFrom]
  | k, t :: ts => by
    rw [List.cons_append, Tm.placesFrom, Tm.placesFrom_snoc a (k+1) ts, Tm.placesFrom, List.length_cons, show k + 1 + ts.length = k + (ts.length + 1) by omega, List.append_assoc]
/-- the places ahead of those within the k-th argument -/
def Tm.placesTo (t : Tm) (k : Nat) : List (List Int) := [] :: Tm.placesFrom 0 (t.args.take k)
theorem Tm.placesTo_zero (t : Tm) : t.placesTo 0 = [[]] := rfl
theorem Tm.placesTo_succ {t : Tm} {k : Nat} {a : Tm} (h : t.args[k]? = some a) : t.placesTo (k+1) = t.placesTo k ++ a.places.map (fun p => (k : Int) :: p) := by
  have hl := lt_of_get h
  unfold Tm.placesTo
  rw [take_snoc h, Tm.placesFrom_snoc, List.length_take, Nat.min_eq_left (by omega), Nat.zero_add, List.cons_append]
theorem Tm.placesTo_all {t : Tm} {k : Nat} (h : k = t.args.length) : t.placesTo k = t.places := by
  subst h
  rw [Tm.places_eq, Tm.placesTo, List.take_length]
mutual
theorem Tm.places_length : ∀ t : Tm, t.places.length = t.size
  | .mk n xs => by simp only [Tm.places, Tm.size, List.length_cons, Tm.placesFrom_length 0 xs]; omega
theorem Tm.placesFrom_length : ∀ (k : Nat) (xs : List Tm), (Tm.placesFrom k xs).length = Tm.sizes xs
  | _, [] => rfl
  | k, t :: ts => by simp only [Tm.placesFrom, Tm.sizes, List.length_append, List.length_map, Tm.places_length t, Tm.placesFrom_length (k+1) ts]
end
mutual
theorem Tm.places_deep : ∀ (t : Tm) (p : List Int), p ∈ t.places → p.length ≤ t.size
  | .mk n xs, p, h => by
    simp only [Tm.places, List.mem_cons] at h
    rcases h with rfl | h
    · simp
    · have := Tm.placesFrom_deep 0 xs p h
      simp only [Tm.size]
      omega
theorem Tm.placesFrom_deep : ∀ (k : Nat) (xs : List Tm) (p : List Int), p ∈ Tm.placesFrom k xs → p.length ≤ 1 + Tm.sizes xs
  | _, [], p, h => by simp [Tm.placesFrom] at h
  | k, t :: ts, p, h => by
    simp only [Tm.placesFrom, List.mem_append, List.mem_map] at h
    simp only [Tm.sizes]
    rcases h with ⟨q, hq, rfl⟩ | h
    · have := Tm.places_deep t q hq
      simp only [List.length_cons]
      omega
    · have := Tm.placesFrom_deep (k+1) ts p h
      omega
end
theorem Tm.placesTo_length (t : Tm) (k : Nat) : (t.placesTo k).length = 1 + Tm.sizes (t.args.take k) := by
  rw [Tm.placesTo, List.length_cons, Tm.placesFrom_length]; omega


theorem lessBy_step {s z : Nat} {m : Int} (h : 0 ≤ lessBy s m) : lessBy z (lessBy s m) = lessBy (s + z) m := by
  unfold lessBy at *
  split at h
  · omega
  · rename_i h1
    rw [if_neg h1]
    split <;> split <;> omega
theorem lessBy_neg {s z : Nat} {m : Int} (h : lessBy s m < 0) (hz : s ≤ z) : lessBy s m = lessBy z m := by
  unfold lessBy at *
  split at h
  · rw [if_pos (by assumption), if_pos (by omega)]
  · omega
theorem lessBy_le (s : Nat) (m : Int) (h : 0 ≤ m) : -1 ≤ lessBy s m ∧ lessBy s m ≤ m := by unfold lessBy; split <;> omega
theorem capTo_step {s z : Nat} {m : Int} (h : (s : Int) ≤ m) : (s : Int) + capTo z (m - s) = capTo (s + z) m := by
  unfold capTo
  split <;> split <;> omega
theorem capTo_over {s z : Nat} {m : Int} (h : m < capTo s m) (hz : s ≤ z) : capTo z m = m + 1 := by
  unfold capTo at *
  split at h <;> split <;> omega
theorem capTo_le (s : Nat) (m : Int) (h : 0 ≤ m) : 0 ≤ capTo s m ∧ capTo s m ≤ m + 1 := by unfold capTo; split <;> omega
theorem capTo_in {s : Nat} {m : Int} (h : ¬ m < capTo s m) : capTo s m = s ∧ (s : Int) ≤ m := by
  unfold capTo at *
  split at h
  · omega
  · rename_i h2
    rw [if_neg h2]
    omega
end Go.Proofs.Ytpajlfdhmjgpnaa

namespace Go.Proofs.Ytpajlfdhmjgpnaa
open Go Go.RowKit
set_option linter.unusedVariables false

theorem srep_str_inj {σ : Sto} {v : Value} {s s' : ByteArray} (h : SRep σ v (.str s)) (h' : SRep σ v (.str s')) : s = s' := by
  cases h with
  | str _ => cases h' with
    | str _ => rfl
theorem srep_rows {σ : Sto} {v : Value} {xs ys : List (List SV)} (h : SRep σ v (.list xs)) (h' : SRep σ v (.list ys)) (w : Nat) (hx : ∀ x ∈ xs, x.length = w) (hy : ∀ y ∈ ys, y.length = w) :
    xs.length = ys.length ∧ ∀ (k : Nat) (x y : List SV), xs[k]? = some x → ys[k]? = some y → ∃ c : Nat → Value, (∀ j u, x[j]? = some u → SRep σ (c j) u) ∧ ∀ j u, y[j]? = some u → SRep σ (c j) u := by
  cases h with
  | @list p len cap b o w1 _ c h1 h2 h3 h4 h5 h6 hh h7 h8 =>
  cases h' with
  | @list _ _ _ b' o' w2 _ c' k1 k2 k3 k4 k5 k6 kh k7 k8 =>
  refine ⟨by omega, fun k x y ex ey => ⟨c k, fun j u hu => h8 k x j u ex hu, fun j u hu => ?_⟩⟩
  have m1 := List.mem_of_getElem? ex
  have m2 := List.mem_of_getElem? ey
  have hl := (List.getElem?_eq_some_iff.1 ex).1
  have e1 := h5 (by omega)
  have e2 := k5 (by omega)
  rw [e1] at e2
  cases e2
  have w1e : w1 = w := (h6 x m1).symm.trans (hx x m1)
  have w2e : w2 = w := (k6 y m2).symm.trans (hy y m2)
  have hj : j < x.length := by
    rw [hx x m1, ← hy y m2]
    exact (List.getElem?_eq_some_iff.1 hu).1
  have q1 := h7 k x j _ ex (List.getElem?_eq_getElem hj)
  have q2 := k7 k y j u ey hu
  rw [w1e] at q1
  rw [w2e, q1] at q2
  rw [Option.some.inj q2]
  exact k8 k y j u ey hu
theorem twin_tm0 : ∀ (N : Nat) (a b : Tm) (σ : Sto) (c : Nat → Value), SizeOf.sizeOf a < N → (∀ j x, (encT a)[j]? = some x → SRep σ (c j) x) → (∀ j x, (encT b)[j]? = some x → SRep σ (c j) x) → a = b
  | 0, _, _, _, _, h, _, _ => absurd h (Nat.not_lt_zero _)
  | N + 1, a, b, σ, c, hN, ha, hb => by
    rw [encT_eq] at ha hb
    have hn := srep_str_inj (ha 0 _ rfl) (hb 0 _ rfl)
    have hlen : ∀ {l : List Tm}, ∀ x ∈ l.map encT, x.length = 2 := fun x hx => by
      obtain ⟨t, _, rfl⟩ := List.mem_map.1 hx
      exact len_encT t
    obtain ⟨hl, hr⟩ := srep_rows (ha 1 _ rfl) (hb 1 _ rfl) 2 hlen hlen
    rw [List.length_map, List.length_map] at hl
    have hargs : a.args = b.args := by
      apply List.ext_getElem?
      intro k
      by_cases hk : k < a.args.length
      · have e1 : a.args[k]? = some a.args[k] := List.getElem?_eq_getElem hk
        have e2 : b.args[k]? = some (b.args[k]'(by omega)) := List.getElem?_eq_getElem (by omega)
        obtain ⟨c', q1, q2⟩ := hr k (encT a.args[k]) (encT (b.args[k]'(by omega))) (by rw [List.getElem?_map, e1]; rfl) (by rw [List.getElem?_map, e2]; rfl)
        have hlt := Tm.lt_of_arg (List.mem_of_getElem? e1)
        rw [e1, e2, twin_tm0 N _ _ σ c' (by omega) q1 q2]
      · rw [List.getElem?_eq_none (by omega), List.getElem?_eq_none (by omega)]
    cases a
    cases b
    simp only [Tm.name, Tm.args] at hn hargs
    rw [hn, hargs]
theorem twin_tm {a b : Tm} (h : Twin (encT a) (encT b)) : a = b := by
  obtain ⟨σ, c, h1, h2⟩ := h
  exact twin_tm0 _ a b σ c (Nat.lt_succ_self _) h1 h2
end Go.Proofs.Ytpajlfdhmjgpnaa

namespace Go.Proofs.Ytpajlfdhmjgpnaa
open Go Go.RowKit
set_option linter.unusedVariables false

/-! ### the order of texts -/
theorem bl_irrefl : ∀ l : List UInt8, Op.bytesLess l l = false
  | [] => by simp [Op.bytesLess]
  | x :: xs => by simp [Op.bytesLess, bl_irrefl xs]
theorem bl_trans : ∀ (a b c : List UInt8), Op.bytesLess a b = true → Op.bytesLess b c = true → Op.bytesLess a c = true
  | _, [], _, h, _ => by simp [Op.bytesLess] at h
  | _, _ :: _, [], _, k => by simp [Op.bytesLess] at k
  | [], _ :: _, _ :: _, _, _ => by simp [Op.bytesLess]
  | x :: xs, y :: ys, z :: zs, h, k => by
    simp only [Op.bytesLess, Bool.or_eq_true, Bool.and_eq_true, decide_eq_true_eq, beq_iff_eq] at h k ⊢
    rcases h with h | ⟨rfl, h⟩
    · rcases k with k | ⟨rfl, k⟩
      · exact .inl (UInt8.lt_trans h k)
      · exact .inl h
    · rcases k with k | ⟨rfl, k⟩
      · exact .inl k
      · exact .inr ⟨rfl, bl_trans xs ys zs h k⟩
theorem bl_total : ∀ (a b : List UInt8), Op.bytesLess a b = true ∨ a = b ∨ Op.bytesLess b a = true
  | [], [] => .inr (.inl rfl)
  | [], _ :: _ => .inl (by simp [Op.bytesLess])
  | _ :: _, [] => .inr (.inr (by simp [Op.bytesLess]))
  | x :: xs, y :: ys => by
    simp only [Op.bytesLess, Bool.or_eq_true, Bool.and_eq_true, decide_eq_true_eq, beq_iff_eq, List.cons.injEq]
    rcases Nat.lt_trichotomy x.toNat y.toNat with h | h | h
    · exact .inl (.inl h)
    · have e : x = y := UInt8.toNat_inj.1 h
      subst e
      rcases bl_total xs ys with h | h | h
      · exact .inl (.inr ⟨rfl, h⟩)
      · exact .inr (.inl ⟨rfl, h⟩)
      · exact .inr (.inr (.inr ⟨rfl, h⟩))
    · exact .inr (.inr (.inl h))
theorem bytes_eq {a b : ByteArray} (h : a.toList = b.toList) : a = b := by
  rw [ByteArray.toList_eq, ByteArray.toList_eq] at h
  cases a; cases b
  simp only at h
  congr 1
  exact Array.toList_inj.1 h
theorem sLt_irrefl (a : ByteArray) : sLt a a = false := bl_irrefl _
theorem sLt_trans {a b c : ByteArray} (h : sLt a b = true) (k : sLt b c = true) : sLt a c = true := bl_trans _ _ _ h k
theorem sLt_total (a b : ByteArray) : sLt a b = true ∨ a = b ∨ sLt b a = true := by
  rcases bl_total a.toList b.toList with h | h | h
  · exact .inl h
  · exact .inr (.inl (bytes_eq h))
  · exact .inr (.inr h)
theorem sLt_asymm {a b : ByteArray} (h : sLt a b = true) : sLt b a = false := by
  cases k : sLt b a with
  | false => rfl
  | true => have := sLt_trans h k; rw [sLt_irrefl] at this; cases this
def cmpI (a b : ByteArray) : Int := if sLt a b = true then -1 else if a = b then 0 else 1

/-! ### bindings -/
abbrev Bd := ByteArray × Tm
def encB (b : Bd) : List SV := [.str b.1, .str b.2.name, .list (b.2.args.map encT)]
abbrev aBds (l : List Bd) : AV := .one (.st (.list (l.map encB)))
abbrev aBd (b : Bd) : AV := .agg [.st (.str b.1), .st (.str b.2.name), .st (.list (b.2.args.map encT))]
theorem lens_encB {ts : List Bd} : ∀ x ∈ ts.map encB, x.length = 3 := by
  intro x hx
  obtain ⟨a, _, rfl⟩ := List.mem_map.1 hx
  rfl
/-- is the later name no greater? -/
def ordBad (cur prev : ByteArray) : Bool := sLt cur prev || decide (cur = prev)
def bindErr (prev : Option ByteArray) (b : Bd) : Int :=
  if nameOk b.1 = true ∧ isVar b.1 = true then (if (prev.any fun p => ordBad b.1 p) = true then 14 else b.2.may) else 1
def lastName (p : Option ByteArray) : List Bd → Option ByteArray
  | [] => p
  | b :: bs => lastName (some b.1) bs
def bindsErr : Option ByteArray → List Bd → Int
  | _, [] => 0
  | p, b :: bs => if bindErr p b = 0 then bindsErr (some b.1) bs else bindErr p b
def bindsMay (l : List Bd) : Int := if 40 < l.length then 3 else bindsErr none l
theorem bindsErr_append : ∀ (p : Option ByteArray) (xs ys : List Bd), bindsErr p (xs ++ ys) = if bindsErr p xs = 0 then bindsErr (lastName p xs) ys else bindsErr p xs
  | p, [], ys => by simp [bindsErr, lastName]
  | p, b :: xs, ys => by
    simp only [List.cons_append, bindsErr, lastName]
    by_cases h : bindErr p b = 0
    · simp only [h, if_true, bindsErr_append]
    · simp only [h, if_false]
theorem lastName_append (p : Option ByteArray) (xs : List Bd) (b : Bd) : lastName p (xs ++ [b]) = some b.1 := by
  induction xs generalizing p with
  | nil => rfl
  | cons x xs ih => exact ih _
theorem lastName_take {xs : List Bd} {k : Nat} {b : Bd} (h : xs[k]? = some b) : lastName none (xs.take (k + 1)) = some b.1 := by rw [take_snoc h, lastName_append]
theorem drop_get {α : Type} {xs : List α} {k : Nat} {a : α} (h : xs[k]? = some a) : xs.drop k = a :: xs.drop (k + 1) := by
  have hk := lt_of_get h
  rw [List.getElem?_eq_getElem hk] at h
  rw [List.drop_eq_getElem_cons hk]
  simp at h
  rw [h]
theorem bindsErr_get {xs : List Bd} {k : Nat} {b : Bd} (h : xs[k]? = some b) (h0 : bindsErr none (xs.take k) = 0) :
    (bindErr (lastName none (xs.take k)) b = 0 → bindsErr none (xs.take (k + 1)) = 0) ∧ (bindErr (lastName none (xs.take k)) b ≠ 0 → bindsErr none xs = bindErr (lastName none (xs.take k)) b) := by
  constructor
  · intro hb
    rw [take_snoc h, bindsErr_append, if_pos h0]
    simp [bindsErr, hb]
  · intro hb
    have e : bindsErr none xs = bindsErr none (xs.take k ++ xs.drop k) := by rw [List.take_append_drop]
    rw [e, bindsErr_append, if_pos h0, drop_get h]
    simp [bindsErr, hb]
theorem bindErr_zero {p : Option ByteArray} {b : Bd} (h : bindErr p b = 0) : nameOk b.1 = true ∧ isVar b.1 = true ∧ b.2.may = 0 ∧ ∀ q, p = some q → sLt q b.1 = true := by
  unfold bindErr at h
  split at h
  · rename_i h1
    split at h
    · cases h
    · rename_i h2
      refine ⟨h1.1, h1.2, h, fun q hq => ?_⟩
      subst hq
      simp only [Option.any_some, ordBad, Bool.or_eq_true, decide_eq_true_eq, not_or] at h2
      rcases sLt_total q b.1 with h3 | h3 | h3
      · exact h3
      · exact absurd h3.symm h2.2
      · exact absurd h3 h2.1
  · cases h
/-- Names in order, each greater than those ahead. -/
def Ordered (l : List Bd) : Prop := l.Pairwise fun a b => sLt a.1 b.1 = true
structure GoodBs (l : List Bd) : Prop where
  ord : Ordered l
  ok : ∀ b ∈ l, nameOk b.1 = true ∧ isVar b.1 = true ∧ b.2.may = 0
theorem bindsErr_good : ∀ {p : Option ByteArray} {l : List Bd}, bindsErr p l = 0 → (∀ q, p = some q → ∀ b ∈ l, sLt q b.1 = true) ∧ Ordered l ∧ ∀ b ∈ l, nameOk b.1 = true ∧ isVar b.1 = true ∧ b.2.may = 0
  | p, [], _ => ⟨by simp, List.Pairwise.nil, by simp⟩
  | p, b :: bs, h => by
    simp only [bindsErr] at h
    split at h
    · rename_i h1
      obtain ⟨q1, q2, q3, q4⟩ := bindErr_zero h1
      obtain ⟨r1, r2, r3⟩ := bindsErr_good h
      have r1 := r1 _ rfl
      refine ⟨fun q hq c hc => ?_, List.pairwise_cons.2 ⟨r1, r2⟩, fun c hc => ?_⟩
      · rcases List.mem_cons.1 hc with rfl | hc
        · exact q4 q hq
        · exact sLt_trans (q4 q hq) (r1 c hc)
      · rcases List.mem_cons.1 hc with rfl | hc
        · exact ⟨q1, q2, q3⟩
        · exact r3 c hc
    · rename_i h1
      exact absurd h h1
theorem bindsMay_good {l : List Bd} (h : bindsMay l = 0) : GoodBs l ∧ l.length ≤ 40 := by
  unfold bindsMay at h
  split at h
  · cases h
  · obtain ⟨_, h1, h2⟩ := bindsErr_good h
    exact ⟨⟨h1, h2⟩, by omega⟩

/-! ### what stands for a name -/
def lookup (l : List Bd) (n : ByteArray) : Option Tm := (l.find? fun b => decide (b.1 = n)).map (·.2)
theorem lookup_none {l : List Bd} {n : ByteArray} (h : ∀ b ∈ l, b.1 ≠ n) : lookup l n = none := by
  unfold lookup
  rw [List.find?_eq_none.2 (fun b hb => by simpa using h b hb)]
  rfl
theorem lookup_take {l : List Bd} {n : ByteArray} {k : Nat} {b : Bd} (hk : l[k]? = some b) (hb : b.1 = n) (h : ∀ c ∈ l.take k, c.1 ≠ n) : lookup l n = some b.2 := by
  unfold lookup
  rw [← List.take_append_drop k l, List.find?_append, List.find?_eq_none.2 (fun c hc => by simpa using h c hc), drop_get hk]
  simp [hb]
theorem lookup_mem {l : List Bd} {n : ByteArray} {x : Tm} (h : lookup l n = some x) : ∃ b ∈ l, b.1 = n ∧ b.2 = x := by
  unfold lookup at h
  rw [Option.map_eq_some_iff] at h
  obtain ⟨b, h1, h2⟩ := h
  exact ⟨b, List.mem_of_find?_eq_some h1, by simpa using List.find?_some h1, h2⟩
/-- In order, a name stands once. -/
theorem ordered_get {l : List Bd} (h : Ordered l) {i j : Nat} {a b : Bd} (hi : l[i]? = some a) (hj : l[j]? = some b) (hij : i < j) : sLt a.1 b.1 = true := by
  have h1 := List.pairwise_iff_getElem.1 h
  obtain ⟨hi1, hi2⟩ := List.getElem?_eq_some_iff.1 hi
  obtain ⟨hj1, hj2⟩ := List.getElem?_eq_some_iff.1 hj
  have := h1 i j hi1 hj1 hij
  rw [hi2, hj2] at this
  exact this

/-! ### substitution -/
mutual
def Tm.on (s : List Bd) : Tm → Tm
  | .mk n xs => match (if xs.isEmpty then lookup s n else none) with
    | some x => x
    | none => .mk n (Tm.onL s xs)
def Tm.onL (s : List Bd) : List Tm → List Tm
  | [] => []
  | t :: ts => t.on s :: Tm.onL s ts
end
theorem Tm.onL_eq (s : List Bd) : ∀ ts : List Tm, Tm.onL s ts = ts.map (Tm.on s)
  | [] => rfl
  | t :: ts => by rw [Tm.onL, Tm.onL_eq s ts]; rfl
theorem Tm.on_leaf {s : List Bd} {t x : Tm} (h : lookup s t.name = some x) (h0 : t.args = []) : t.on s = x := by
  cases t with
  | mk n xs =>
    simp only [Tm.name_mk, Tm.args_mk] at h h0
    subst h0
    simp [Tm.on, h]
theorem Tm.on_knot {s : List Bd} {t : Tm} (h : lookup s t.name = none ∨ t.args ≠ []) : t.on s = .mk t.name (t.args.map (Tm.on s)) := by
  cases t with
  | mk n xs =>
    simp only [Tm.name_mk, Tm.args_mk] at h ⊢
    rw [← Tm.onL_eq]
    rcases h with h | h
    · simp [Tm.on, h]
    · cases xs with
      | nil => exact absurd rfl h
      | cons y ys => simp [Tm.on]
/-- no knot with a variable's name has arguments -/
theorem Tm.chk_args {t : Tm} (h : t.chk = 0) : (isVar t.name = true → t.args = []) ∧ ∀ a ∈ t.args, a.chk = 0 := by
  have hc := Tm.chk_eq t
  rw [h] at hc
  by_cases h1 : chkOne t = 0
  · rw [if_pos h1] at hc
    have key : ∀ {xs : List Tm}, Tm.chkL xs = 0 → ∀ a ∈ xs, a.chk = 0 := by
      intro xs
      induction xs with
      | nil => simp
      | cons x xs ih =>
        intro hx a ha
        simp only [Tm.chkL] at hx
        split at hx
        · rename_i h2
          rcases List.mem_cons.1 ha with rfl | ha
          · exact h2
          · exact ih hx a ha
        · rename_i h2
          exact absurd hx h2
    refine ⟨fun hv => ?_, key hc.symm⟩
    unfold chkOne at h1
    split at h1
    · split at h1
      · cases h1
      · rename_i h2
        simp only [hv, true_and, Nat.not_lt, Nat.le_zero] at h2
        exact List.eq_nil_of_length_eq_zero h2
    · cases h1
  · rw [if_neg h1] at hc
    exact absurd hc.symm h1
theorem Tm.may_chk {t : Tm} (h : t.may = 0) : t.chk = 0 ∧ t.size ≤ 200 := by
  unfold Tm.may at h
  split at h
  · cases h
  · exact ⟨h, by omega⟩

/-! ### classes -/
def stays (s : List Bd) : Bool := s.all fun b => b.2.varsOf.all fun v => match lookup s v with
  | some x => decide (x.name = v)
  | none => true
def namesGo : List ByteArray → List Bd → Bool
  | _, [] => true
  | seen, b :: bs => isVar b.2.name && !isIn b.2.name seen && namesGo (seen ++ [b.2.name]) bs
def justNames (s : List Bd) : Bool := namesGo [] s
theorem namesGo_append : ∀ (seen : List ByteArray) (xs ys : List Bd), namesGo seen (xs ++ ys) = (namesGo seen xs && namesGo (seen ++ xs.map (·.2.name)) ys)
  | seen, [], ys => by simp [namesGo]
  | seen, b :: xs, ys => by
    simp only [List.cons_append, namesGo, namesGo_append, List.map_cons, List.append_assoc, Bool.and_assoc, List.nil_append]
end Go.Proofs.Ytpajlfdhmjgpnaa

namespace Go.Proofs.Ytpajlfdhmjgpnaa
open Go Go.RowKit
set_option linter.unusedVariables false

/-- A binding laid into a sorted row: behind all whose names are no greater. -/
def insB (b : Bd) : List Bd → List Bd
  | [] => [b]
  | c :: l => if sLt b.1 c.1 = true then b :: c :: l else c :: insB b l
def sortB (l : List Bd) : List Bd := l.foldl (fun acc b => insB b acc) []
/-- No two names alike. -/
def Named (l : List Bd) : Prop := (l.map (·.1)).Nodup
theorem insB_perm (b : Bd) : ∀ l : List Bd, (insB b l).Perm (b :: l)
  | [] => List.Perm.refl _
  | c :: l => by
    unfold insB
    split
    · exact List.Perm.refl _
    · exact ((insB_perm b l).cons c).trans (List.Perm.swap b c l)
theorem insB_ordered {b : Bd} : ∀ {l : List Bd}, Ordered l → (∀ c ∈ l, c.1 ≠ b.1) → Ordered (insB b l)
  | [], _, _ => List.pairwise_cons.2 ⟨by simp, List.Pairwise.nil⟩
  | c :: l, ho, hn => by
    obtain ⟨o1, o2⟩ := List.pairwise_cons.1 ho
    unfold insB
    split
    · rename_i h
      exact List.pairwise_cons.2 ⟨fun x hx => by
        rcases List.mem_cons.1 hx with rfl | hx
        · exact h
        · exact sLt_trans h (o1 x hx), ho⟩
    · rename_i h
      refine List.pairwise_cons.2 ⟨fun x hx => ?_, insB_ordered o2 fun x hx => hn x (by simp [hx])⟩
      rcases List.mem_cons.1 ((insB_perm b l).mem_iff.1 hx) with rfl | hx
      · rcases sLt_total c.1 x.1 with k | k | k
        · exact k
        · exact absurd k (hn c (by simp))
        · exact absurd k h
      · exact o1 x hx
theorem sortB_snoc (l : List Bd) (b : Bd) : sortB (l ++ [b]) = insB b (sortB l) := by unfold sortB; rw [List.foldl_append]; rfl
theorem foldl_ins_perm : ∀ (l acc : List Bd), (l.foldl (fun acc b => insB b acc) acc).Perm (l ++ acc)
  | [], acc => List.Perm.refl _
  | b :: l, acc => by
    rw [List.foldl_cons]
    refine (foldl_ins_perm l _).trans ?_
    refine ((insB_perm b acc).append_left l).trans ?_
    exact List.perm_middle
theorem sortB_perm (l : List Bd) : (sortB l).Perm l := by
  have := foldl_ins_perm l []
  rw [List.append_nil] at this
  exact this
theorem foldl_ins_ordered : ∀ (l acc : List Bd), Ordered acc → Named (acc ++ l) → Ordered (l.foldl (fun acc b => insB b acc) acc)
  | [], acc, ho, _ => ho
  | b :: l, acc, ho, hn => by
    rw [List.foldl_cons]
    have hp : (acc ++ b :: l).Perm (insB b acc ++ l) := (List.perm_middle).trans (by rw [← List.cons_append]; exact ((insB_perm b acc).symm.append_right l))
    refine foldl_ins_ordered l _ (insB_ordered ho fun c hc e => ?_) ((hp.map _).nodup_iff.1 hn)
    unfold Named at hn
    rw [List.map_append, List.nodup_append] at hn
    exact hn.2.2 _ (List.mem_map.2 ⟨c, hc, rfl⟩) _ (by simp) e
theorem sortB_ordered {l : List Bd} (hn : Named l) : Ordered (sortB l) := foldl_ins_ordered l [] List.Pairwise.nil (by simpa using hn)
theorem ordered_named {l : List Bd} (ho : Ordered l) : Named l := by
  unfold Named
  rw [List.nodup_iff_pairwise_ne, List.pairwise_map]
  exact ho.imp fun {a b} h e => by rw [e, sLt_irrefl] at h; cases h
theorem ordered_unique : ∀ {l m : List Bd}, Ordered l → Ordered m → l.Perm m → l = m
  | [], m, _, _, h => (List.nil_perm.1 h).symm
  | a :: l, [], _, _, h => absurd h.length_eq (by simp)
  | a :: l, c :: m, hl, hm, h => by
    obtain ⟨l1, l2⟩ := List.pairwise_cons.1 hl
    obtain ⟨m1, m2⟩ := List.pairwise_cons.1 hm
    have e : a = c := by
      rcases List.mem_cons.1 (h.mem_iff.1 (List.mem_cons_self)) with e | e
      · exact e
      · rcases List.mem_cons.1 (h.mem_iff.2 (List.mem_cons_self)) with e2 | e2
        · exact e2.symm
        · have := sLt_trans (m1 a e) (l1 c e2)
          rw [sLt_irrefl] at this
          cases this
    subst e
    rw [ordered_unique l2 m2 (List.Perm.cons_inv h)]
theorem sortB_id {l : List Bd} (ho : Ordered l) : sortB l = l := ordered_unique (sortB_ordered (ordered_named ho)) ho (sortB_perm l)
theorem sortB_mem {l : List Bd} {b : Bd} : b ∈ sortB l ↔ b ∈ l := (sortB_perm l).mem_iff
theorem sortB_length (l : List Bd) : (sortB l).length = l.length := (sortB_perm l).length_eq
theorem named_perm {l m : List Bd} (h : l.Perm m) (hn : Named l) : Named m := ((h.map _).nodup_iff).1 hn
end Go.Proofs.Ytpajlfdhmjgpnaa

namespace Go.Proofs.Ytpajlfdhmjgpnaa
open Go Go.RowKit
set_option linter.unusedVariables false

/-- It stands for itself. -/
def selfB (b : Bd) : Bool := decide (b.2.name = b.1)
def keepB (l : List Bd) : List Bd := l.filter fun b => !selfB b
theorem keepB_append (l m : List Bd) : keepB (l ++ m) = keepB l ++ keepB m := List.filter_append _ _
theorem keepB_all {l : List Bd} (h : ∀ c ∈ l, selfB c = false) : keepB l = l := List.filter_eq_self.2 fun c hc => by rw [h c hc]; rfl
theorem keepB_len (l : List Bd) : (keepB l).length ≤ l.length := List.length_filter_le _ _
theorem keepB_yes {b : Bd} (h : selfB b = false) : keepB [b] = [b] := by unfold keepB; rw [List.filter_cons_of_pos (by rw [h]; rfl)]; rfl
theorem keepB_no {b : Bd} (h : selfB b = true) : keepB [b] = [] := by unfold keepB; rw [List.filter_cons_of_neg (by rw [h]; simp)]; rfl
def putIn (r : List Bd) (l : List Bd) : List Bd := l.map fun b => (b.1, b.2.on r)
def newIn (s : List Bd) (l : List Bd) : List Bd := l.filter fun b => !(lookup s b.1).isSome
theorem newIn_append (s l m : List Bd) : newIn s (l ++ m) = newIn s l ++ newIn s m := List.filter_append _ _
theorem newIn_yes {s : List Bd} {b : Bd} (h : (lookup s b.1).isSome = false) : newIn s [b] = [b] := by unfold newIn; rw [List.filter_cons_of_pos (by rw [h]; rfl)]; rfl
theorem newIn_no {s : List Bd} {b : Bd} (h : (lookup s b.1).isSome = true) : newIn s [b] = [] := by unfold newIn; rw [List.filter_cons_of_neg (by rw [h]; simp)]; rfl
def joined (s r : List Bd) : List Bd := putIn r s ++ newIn s r
def thenOf (s r : List Bd) : List Bd × Int := if (s.all fun b => decide ((b.2.on r).size ≤ 2000)) = true then (sortB (keepB (joined s r)), 0) else ([], 8)
theorem joined_named {s r : List Bd} (hs : Ordered s) (hr : Ordered r) : Named (joined s r) := by
  have h1 := ordered_named hs
  have h2 := ordered_named hr
  unfold Named at *
  unfold joined putIn newIn
  rw [List.map_append, List.map_map, List.nodup_append]
  refine ⟨h1, h2.sublist (List.Sublist.map _ List.filter_sublist), fun a ha b hb e => ?_⟩
  obtain ⟨c, hc, rfl⟩ := List.mem_map.1 ha
  obtain ⟨d, hd, rfl⟩ := List.mem_map.1 hb
  obtain ⟨hd1, hd2⟩ := List.mem_filter.1 hd
  cases hl : lookup s d.1 with
  | some x => rw [hl] at hd2; simp at hd2
  | none =>
    have hdom : ∀ b ∈ s, b.1 ≠ d.1 := by
      unfold lookup at hl
      rw [Option.map_eq_none_iff, List.find?_eq_none] at hl
      exact fun b hb e => hl b hb (by simpa using e)
    exact hdom c hc e
theorem keep_named {l : List Bd} (h : Named l) : Named (keepB l) := by
  unfold Named at *
  exact h.sublist (List.Sublist.map _ List.filter_sublist)
/-- The first that stands for itself. -/
theorem first_self : ∀ {l : List Bd}, ¬ (∀ c ∈ l, selfB c = false) → ∃ k b, l[k]? = some b ∧ selfB b = true ∧ ∀ c ∈ l.take k, selfB c = false
  | [], h => absurd (by simp) h
  | b :: l, h => by
    cases hb : selfB b with
    | true => exact ⟨0, b, rfl, hb, by simp⟩
    | false =>
      obtain ⟨k, c, h1, h2, h3⟩ := first_self (l := l) fun hall => h fun c hc => by
        rcases List.mem_cons.1 hc with rfl | hc
        · exact hb
        · exact hall c hc
      refine ⟨k + 1, c, h1, h2, fun d hd => ?_⟩
      rw [List.take_succ_cons] at hd
      rcases List.mem_cons.1 hd with rfl | hd
      · exact hb
      · exact h3 d hd
end Go.Proofs.Ytpajlfdhmjgpnaa
