/-
  Proved: what is told to be accepted is accepted, and no accepted term has fewer knots: the law TopSome returns true. Conditions: none.
-/
import Derived.Test.YtbknconogoegaaaTSA7
import Derived.Test.YtbknconogoegaaaRows
import Derived.ProofKit
import Derived.OpenShut
import Derived.JoinedCond
import Derived.Deep.Slices
namespace Go.Proofs.Ytbknconogoegaaa
open Go Go.RowKit
set_option linter.unusedVariables false
set_option maxHeartbeats 400000
def Ol (P : Program) (f : FuncId) (caps : List AV) (Need : AA → Prop) {α : Type} (encs : α → List AV) (all : List α) : Prop :=
 ∀ (y : Nat) (Inv : List α → AA → Prop) (Jx : AA → Prop) (T : AA), 1000 ≤ y → (∀ pre T, Inv pre T → Need T) →
  (∀ pre v, (pre ++ [v]) <+: all → ∀ T, Inv pre T → Fs P (.one (.yld y)) (encs v) T fun r T' => (r = .one (.st (.bool true)) ∧ Inv (pre ++ [v]) T') ∨ (r = .one (.st (.bool false)) ∧ Jx T')) →
  Inv [] T → Hv P f (.one (.yld y) :: caps) T fun _ T' => Inv all T' ∨ Jx T'
def Io (env : Nat → AV) : List Nat → List AV → Nat → AV
 | p :: ps, v :: vs => Io (AE env p v) ps vs
 | _, _ => env
section
variable {σ : Sto} {S : AA} {ι : Ae}
theorem HH {n : Nat} : ∀ {ps : List Nat} {vs : List Value} {xs : List AV} {tmps : Array Value} {env : Nat → AV}, AP (AL σ S ι) vs xs → n ≤ tmps.size → (∀ i, i < n → AL σ S ι (tmps.getD i undef) (env i)) →
  n ≤ ((ps.zip vs).foldl (fun t (p, v) => t.setIfInBounds p v) tmps).size ∧ ∀ i, i < n → AL σ S ι (((ps.zip vs).foldl (fun t (p, v) => t.setIfInBounds p v) tmps).getD i undef) (Io env ps xs i)
 | [], vs, xs, tmps, env, h, hs, he => ⟨hs, he⟩
 | p :: ps, [], [], tmps, env, h, hs, he => ⟨hs, he⟩
 | p :: ps, v :: vs, x :: xs, tmps, env, h, hs, he => by
  cases h with
  | cons h1 h2 =>
   refine HH (ps := ps) h2 (by simpa using hs) fun i hi => ?_
   unfold AE
   by_cases e : i = p
   ·subst e
    rw [if_pos rfl, Array.getD_eq_getD_getElem?, Array.getElem?_setIfInBounds_self_of_lt (by omega)]
    exact h1
   ·rw [if_neg e, Array.getD_eq_getD_getElem?, Array.getElem?_setIfInBounds_ne (fun h => e h.symm), ← Array.getD_eq_getD_getElem?]
    exact he i hi
end
section
variable {P : Program} {C : Ctx} {mu : List Nat} {Q : AX → AS → Prop} {s : AS} {x y : IR} {σ : Sto} {ι : Ae} {a : Act} {w : World}
theorem AJ.upped (R : AJ C σ ι s a w) : ∃ ι1 : Ae, (∀ i, ι1 (up1 i) = ι i) ∧ Do σ (upS s.S) ι1 w ∧ (∀ v c, AL σ s.S ι v c → AL σ (upS s.S) ι1 v (c.ren up1)) ∧
  ∀ {Post : AV → AA → Prop} {e : Ending} {w' : World}, MA σ (upS s.S) ι1 w Post e w' → ∃ v r S' σ' ι2, e = .returned v ∧ Post r S' ∧ Ah S' ∧ Upd s.S ι (dnS S') ι2 ∧ AJ C σ' ι2 ⟨s.env, dnS S'⟩ a w' := by
 have hup : ∀ i, dn1 (up1 i) = i := Gp
 have hS : ∀ i b, s.S i = some b → upS s.S (up1 i) = some (b.ren up1) := fun i b hb => Dg hb
 obtain ⟨ι1, hι1⟩ : ∃ ι1 : Ae, ∀ i, ι1 i = ι (dn1 i) := ⟨fun i => ι (dn1 i), fun _ => rfl⟩
 have hι : ∀ i b, s.S i = some b → ι1 (up1 i) = ι i := fun i b _ => by rw [hι1, hup]
 have hown : Do σ (upS s.S) ι1 w := by
  refine ⟨fun id b hb => ?_, fun id id' b b' g h1 h2 g1 g2 => ?_⟩
  ·obtain ⟨hle, b', h1, rfl⟩ := Cp hb
   have := BI.ren (S2 := upS s.S) (ι2 := ι1) (ρ := up1) hS hι (R.blk _ _ h1)
   rw [hι1]
   exact this
  ·obtain ⟨l1, c1, k1, _⟩ := Cp h1
   obtain ⟨l2, c2, k2, _⟩ := Cp h2
   rw [hι1] at g1 g2
   have := R.inj _ _ _ _ g k1 k2 g1 g2
   rw [← GJ l1, ← GJ l2, this]
 refine ⟨ι1, fun i => by rw [hι1, hup], hown, fun v c hv => AL.ren (S2 := upS s.S) (ι2 := ι1) (ρ := up1) hS hι hv, fun {Post e w'} he => ?_⟩
 obtain ⟨v, r, S', σ', ι', rfl, hP, hclean, hupd, hown', hv, hf', hkeep, hold, hos, hsz, hsame, hbase⟩ := he
 have hSd : ∀ i b, S' i = some b → dnS S' (dn1 i) = some (b.ren dn1) := fun i b hb => GY (hclean i b hb).1 hb
 obtain ⟨ι2, hι2⟩ : ∃ ι2 : Ae, ∀ i, ι2 i = ι' (up1 i) := ⟨fun i => ι' (up1 i), fun _ => rfl⟩
 have hιd : ∀ i b, S' i = some b → ι2 (dn1 i) = ι' i := fun i b hb => by
  rw [hι2, GJ (hclean i b hb).1]
 have hu : Upd s.S ι (dnS S') ι2 := fun id b hb => by
  obtain ⟨b', h1, h2, h3⟩ := hupd _ _ (hS id b hb)
  have h4 := hSd _ _ h1
  rw [hup] at h4
  refine ⟨_, h4, by rw [A9] at h2 ⊢; exact h2, fun hl => ?_⟩
  rw [A9] at hl
  obtain ⟨q1, q2⟩ := h3 (by rw [A9]; exact hl)
  refine ⟨by rw [Fy] at q1 ⊢; exact q1, ?_⟩
  rw [hι2, q2, hι1, hup]
 have hnot : ∀ g, g < C.N → ¬ C.G g → Bm (upS s.S) ι1 g := fun g h1 h2 id b hb hg => by
  obtain ⟨_, b', k1, _⟩ := Cp hb
  rw [hι1] at hg
  rcases R.base _ _ g k1 hg with h | h
  ·omega
  ·exact h2 h
 refine ⟨v, r, S', σ', ι2, rfl, hP, hclean, hu, ?_⟩
 refine ⟨R.size, fun i hi => (R.env i hi).mono hkeep hu, R.nod.mono (fun D h => (hsame D (Array.getElem?_eq_some_iff.1 h).1 (DL hown.1 h)).trans h), hf', fun id b hb => ?_, fun id id' b b' g h1 h2 g1 g2 => ?_, fun id b g hb hg => ?_, fun p x hx => hkeep _ _ (R.ext p x hx), fun p h1 h2 => ?_, ⟨hos.1.trans R.os.1, hos.2.1.trans R.os.2.1, hos.2.2.trans R.os.2.2⟩, ⟨Nat.le_trans R.grown.1 hsz, Nat.le_trans R.grown.2 hsz⟩, fun g h1 h2 => ?_, R.upd.trans hu⟩
 ·obtain ⟨b', h1, rfl⟩ := Cl hb
  have := BI.ren (S2 := dnS S') (ι2 := ι2) (ρ := dn1) hSd hιd (hown'.1 _ _ h1)
  rw [hι2]
  exact this
 ·obtain ⟨c1, k1, _⟩ := Cl h1
  obtain ⟨c2, k2, _⟩ := Cl h2
  rw [hι2] at g1 g2
  have := congrArg dn1 (hown'.2 _ _ _ _ g k1 k2 g1 g2)
  rw [hup, hup] at this
  exact this
 ·obtain ⟨b', h1, _⟩ := Cl hb
  rw [hι2] at hg
  rcases hbase _ _ g h1 hg with h2 | h2
  ·exact .inl (by have := R.grown.1; omega)
  ·by_cases hN : g < C.N
   ·by_cases hG : C.G g
    ·exact .inr hG
    ·exact absurd (hnot g hN hG) h2
   ·exact .inl (by omega)
 ·exact (hold p (by have := R.grown.1; omega) (hnot _ h1 h2)).trans (R.old p h1 h2)
 ·exact (hsame g (by have := R.grown.1; omega) (hnot g h1 h2)).trans (R.same g h1 h2)
theorem AJ.setLoop (R : AJ C σ ι s a w) {id l : Nat} {env : List AV} {r : Loop} (r' : Loop) (hS : s.S id = some (.loop env r)) (hl : (ι id).g = some l) (hr : r'.tmps = r.tmps) : w.heap[l]? = some (.loop r) ∧ ∃ ι', AJ C σ ι' (s.set id (.loop env r')) a (w.putObj l (.loop r')) ∧ Upd s.S ι (s.set id (.loop env r')).S ι' := by
 have hb := R.blk id _ hS
 cases hb with
 | loop h1 h2 h3 h4 h5 =>
  rw [hl] at h1
  cases h1
  exact ⟨h2, R.setBlk (o' := .loop r') hS hl h2 h5 rfl rfl fun S' ι' hu => .loop hl (CE h2).1 (by rw [hr]; exact h3) (fun j a ha => by rw [hr]; exact (h4 j a ha).mono (fun _ _ h => h) hu) h5⟩
def Md (C : Ctx) (y : Nat) (b : AI) (N : AA → Prop) (Jx : AX → AA → Prop) (e : AX) (s : AS) : Prop := ∃ s2 U, AZ C s s2 ∧ s2.S = AE U y (some b) ∧ Ah s2.S ∧ U y = none ∧ match e with
 | .normal => N U
 | .ret => Jx .ret U
 | .exit i => Jx (.exit i) U
 | .pan _ => False
theorem DC {C : Ctx} {σ0 : Sto} {T : AA} {ι0 : Ae} {w0 : World} (hC : C.N = w0.heap.size) (hw : C.w0 = w0) (hσ : C.σ0 = σ0) (hG : ∀ g, C.G g ↔ ¬ Bm T ι0 g) (hS0 : C.S0 = T) (hι0 : C.ι0 = ι0) (R : AJ C σ ι s a w) (hc : Ah s.S) {Post : AV → AA → Prop} {b : Bool} (hP : Post (.one (.st (.bool b))) s.S) : MA σ0 T ι0 w0 Post (.returned (.bool b)) w := by
 have hupd := R.upd
 rw [hS0, hι0] at hupd
 subst hσ hw
 exact ⟨.bool b, _, s.S, σ, ι, rfl, hP, hc, hupd, ⟨R.blk, R.inj⟩, .one (.st .bool), R.fit, R.ext, fun p h1 h2 => R.old p (by rw [hC]; exact h1) (fun h => (hG _).1 h h2), R.os, R.grown.2, fun g h1 h2 => R.same g (by rw [hC]; exact h1) (fun h => (hG _).1 h h2), fun id b g h1 h2 => (R.base id b g h1 h2).imp (fun h => by rw [← hC]; exact h) fun h => (hG _).1 h⟩
theorem LE {S : AA} {i : Nat} {b c : Option AI} : AE (AE S i b) i c = AE S i c := by
 funext j
 unfold AE
 split <;> rfl
inductive N0 : Code → AX → Prop
 | ret : N0 .ret .ret
 | exit (i : Nat) : N0 (.exit i) (.exit i)
theorem NH {fn : FuncId} {ps : Array Tmp} {ca cb : Code} {D : Nat} {n : Nat} {env : List AV} {tmps : Array Value} (hx : Ap P n mu ca = some x) (hy : Ap P n mu cb = some y) (hn : env.length = n) {yb : Nat} (hyb : 1000 ≤ yb) {rec : LoopState → Option Code → Loop} (hrec : rec = fun st pe => { state := st, pending := pe, fn, tmps, params := ps, assign := ca, body := cb, defers := D }) {vs : List AV} (hps : vs.length = ps.size)
  {U : AA} (hU : U yb = none) {N : AA → Prop} {Jx : AX → AA → Prop}
  (h : Ah (AE U yb (some (.loop env (rec .ready none)))) → ∀ C' : Ctx, C'.n = n → IWP P C' mu x (AX.then (fun s1 => s1.S yb = some (.loop env (rec .ready none)) ∧ IWP P C' mu y (Md C' yb (.loop env (rec .busy none)) N Jx) (s1.set yb (.loop env (rec .busy none)))) fun _ _ => False) ⟨Io (fun i => (env[i]?).getD .any) ps.toList vs, AE U yb (some (.loop env (rec .ready none)))⟩) :
  Fs P (.one (.yld yb)) vs (AE U yb (some (.loop env (rec .ready none)))) fun r T' => (r = .one (.st (.bool true)) ∧ ∃ U', T' = AE U' yb (some (.loop env (rec .ready none))) ∧ U' yb = none ∧ N U') ∨
   (r = .one (.st (.bool false)) ∧ ∃ U' c e, T' = AE U' yb (some (.loop env (rec .done (some c)))) ∧ U' yb = none ∧ N0 c e ∧ Jx e U') := by
 intro hclean σ w vy xs ι hglob hfit hown hvy hxs
 obtain ⟨T, hT⟩ : ∃ T, AE U yb (some (.loop env (rec .ready none))) = T := ⟨_, rfl⟩
 have hTy : T yb = some (.loop env (rec .ready none)) := by rw [← hT]; exact AB _ _ _
 rw [hT] at hclean hown hvy hxs h ⊢
 have hhigh := (hclean _ _ hTy).2
 have hb := hown.1 _ _ hTy
 obtain ⟨l, hl, rfl⟩ : ∃ l, (ι yb).g = some l ∧ vy = .func (.yield l) #[] #[] := by
  cases hvy with
  | one hv =>
   cases hv with
   | yld k1 k2 k3 k4 =>
    rw [hTy] at k1
    cases k1
    exact k4 rfl
 have hlen := hxs.len
 cases hb with
 | loop k1 k2 k3 k4 k5 =>
 rw [hl] at k1
 cases k1
 have htm : (rec .ready none).tmps = tmps := by rw [hrec]
 refine ⟨l, rfl, fun ro => ⟨fn, _, ca, cb, by
  have := run_yield (P := P) (args := xs.toArray) k2 (by rw [hrec]; simp; omega)
  rw [hrec] at this
  exact this, ?_⟩⟩
 let C' : Ctx := ⟨n, w.heap.size, fun g => ¬ Bm T ι g, σ, w, T, ι, hclean, hglob, [], some l, false⟩
 have hset := HH (σ := σ) (S := T) (ι := ι) (n := n) (ps := ps.toList) (env := fun i => (env[i]?).getD .any) (tmps := tmps) hxs (by rw [htm] at k3; omega) fun i hi => by
  have hi' : i < env.length := by omega
  have := k4 i _ (List.getElem?_eq_getElem hi')
  rw [htm] at this
  simpa [hi'] using this
 have hfold : (ps.zip xs.toArray).foldl (fun t (p, v) => t.setIfInBounds p v) tmps = (ps.toList.zip xs).foldl (fun t (p, v) => t.setIfInBounds p v) tmps := by
  rw [← Array.foldl_toList, Array.toList_zip]
 have R0 : AJ C' σ ι ⟨Io (fun i => (env[i]?).getD .any) ps.toList vs, T⟩ { tmps := (ps.zip xs.toArray).foldl (fun t (p, v) => t.setIfInBounds p v) tmps, defers := [] } w := by
  refine ⟨?_, fun i hi => ?_, D3, hfit, hown.1, hown.2, fun id b g h hg => .inr (fun hno => hno id b h hg), fun _ _ h => h, fun _ _ _ => rfl, ⟨rfl, rfl, rfl⟩, ⟨Nat.le_refl _, Nat.le_refl _⟩, fun _ _ _ => rfl, Upd.refl _ _⟩
  ·dsimp only
   rw [hfold]
   exact hset.1
  ·dsimp only
   rw [hfold]
   exact hset.2 i hi
 refine roundIn_of_wpIn (F := fen ro) (n := 0) trivial (wpIn_mono (h hclean C' rfl ca hx _ w ⟨σ, ι, R0⟩) fun e a1 w1 he => ?_)
 have same : ∀ {σ1 : Sto} {ι1 : Ae} {s1 : AS} {a1 : Act} {w1 : World} {b : AI}, AJ C' σ1 ι1 s1 a1 w1 → s1.S yb = some b → b.len = 1 → (ι1 yb).g = some l := fun R1 hs hl1 => by
  obtain ⟨b', h1, h2, h3⟩ := R1.upd yb _ hTy
  rw [hs] at h1
  cases h1
  rw [(h3 hl1).2]
  exact hl
 cases e with
 | normal =>
  obtain ⟨s1, ⟨h1, h2⟩, σ1, ι1, R1⟩ := he
  obtain ⟨q1, ι2, R2, _⟩ := R1.setLoop (rec .busy none) h1 (same R1 h1 rfl) (by rw [hrec])
  refine ⟨_, by
   have := run_beginRound (P := P) q1 (by rw [hrec])
   rw [hrec] at this
   exact this, ?_⟩
  have e1 : (w1.putObj l (.loop (rec .busy none))) = w1.putObj l (.loop { state := .busy, pending := none, fn, tmps, params := ps, assign := ca, body := cb, defers := D }) := by rw [hrec]
  rw [← e1]
  refine wpIn_mono (h2 cb hy _ _ ⟨σ1, ι2, R2⟩) fun e3 a3 w3 he3 => ?_
  have fin : ∀ (jump : Option Code) (s3 s4 : AS) (U2 : AA), AZ C' s3 s4 → s4.S = AE U2 yb (some (.loop env (rec .busy none))) → Ah s4.S → Ar C' s3 a3 w3 →
    ∃ σ5 ι5 s5, (Instr.endRound l jump).run P w3 = .ok (.bool jump.isNone) (w3.putObj l (.loop (rec (if jump.isNone then .ready else .done) jump))) ∧ s5.S = AE U2 yb (some (.loop env (rec (if jump.isNone then .ready else .done) jump))) ∧ Ah s5.S ∧ AJ C' σ5 ι5 s5 a3 (w3.putObj l (.loop (rec (if jump.isNone then .ready else .done) jump))) := fun jump s3 s4 U2 hg hS hc hH => by
   obtain ⟨σ4, ι4, R4⟩ := hg _ _ hH
   have h4 : s4.S yb = some (.loop env (rec .busy none)) := by rw [hS]; exact AB _ _ _
   obtain ⟨q2, ι5, R5, _⟩ := R4.setLoop (rec (if jump.isNone then .ready else .done) jump) h4 (same R4 h4 rfl) (by rw [hrec])
   refine ⟨σ4, ι5, _, ?_, ?_, ?_, R5⟩
   ·have := run_endRound (P := P) jump q2
    rw [hrec] at this ⊢
    exact this
   ·show AE s4.S yb _ = _
    rw [hS, LE]
   ·exact B8 hc hyb hhigh
  cases e3 with
  | normal =>
   obtain ⟨s3, ⟨s4, U2, g1, g2, g3, g4, g5⟩, hH⟩ := he3
   obtain ⟨σ5, ι5, s5, f1, f2, f3, R5⟩ := fin none s3 s4 U2 g1 g2 g3 hH
   exact ⟨_, _, f1, DC (C := C') rfl rfl rfl (fun g => Iff.rfl) rfl rfl R5 f3 (.inl ⟨rfl, U2, f2, g4, g5⟩)⟩
  | ret =>
   obtain ⟨s3, ⟨s4, U2, g1, g2, g3, g4, g5⟩, hH⟩ := he3
   obtain ⟨σ5, ι5, s5, f1, f2, f3, R5⟩ := fin (some .ret) s3 s4 U2 g1 g2 g3 hH
   exact ⟨_, _, f1, DC (C := C') rfl rfl rfl (fun g => Iff.rfl) rfl rfl R5 f3 (.inr ⟨rfl, U2, _, _, f2, g4, .ret, g5⟩)⟩
  | exit i =>
   obtain ⟨s3, ⟨s4, U2, g1, g2, g3, g4, g5⟩, hH⟩ := he3
   obtain ⟨σ5, ι5, s5, f1, f2, f3, R5⟩ := fin (some (.exit i)) s3 s4 U2 g1 g2 g3 hH
   exact ⟨_, _, f1, DC (C := C') rfl rfl rfl (fun g => Iff.rfl) rfl rfl R5 f3 (.inr ⟨rfl, U2, _, _, f2, g4, .exit i, g5⟩)⟩
  | panic ch => obtain ⟨s3, v, ⟨⟨s4, U2, g1, g2, g3, g4, g5⟩, _⟩, _⟩ := he3; exact g5.elim
  | _ => exact he3.elim
 | panic ch => obtain ⟨s1, v, h1, h2⟩ := he; exact h1.1.elim
 | ret => obtain ⟨s1, h1, h2⟩ := he; exact h1.elim
 | exit i => obtain ⟨s1, h1, h2⟩ := he; exact h1.elim
 | _ => exact he.elim
def Bs (n : Nat) (env : Nat → AV) : List AV := (List.range n).map env
theorem Hc {n : Nat} {env : Nat → AV} : (Bs n env).length = n := by simp [Bs]
theorem Mm {n i : Nat} {env : Nat → AV} {a : AV} (h : (Bs n env)[i]? = some a) : i < n ∧ a = env i := by
 unfold Bs at h
 rw [List.getElem?_map, Option.map_eq_some_iff] at h
 obtain ⟨j, h1, h2⟩ := h
 obtain ⟨h3, h4⟩ := List.getElem?_eq_some_iff.1 h1
 simp at h3 h4
 subst h4
 exact ⟨h3, h2.symm⟩
theorem G8 {n : Nat} {c : Code} {g : Opd} {ps : List Nat} (h : Ap P n mu c = some (.rangeF g ps x y)) : ∃ g' ps' ca cb, c = .rangeFunc g' ps' ca cb ∧ AF n g' = some g ∧ ps'.toList = ps ∧ Ap P n mu ca = some x ∧ Ap P n mu cb = some y := by
 cases c <;> simp only [Ap] at h
 case rangeFunc g' ps' ca cb =>
  split at h
  ·rename_i e1 e2 e3
   split at h
   ·cases h
    exact ⟨_, _, _, _, rfl, e1, rfl, e2, e3⟩
   ·cases h
  ·cases h
 all_goals (exfalso; revert h; (repeat' split) <;> simp)
theorem Nv {U : AA} {id : Nat} {b c : Option AI} : AE (dnS (AE U (up1 id) b)) id c = AE (dnS U) id c := by
 funext j
 unfold AE
 by_cases e : j = id
 ·rw [if_pos e, if_pos e]
 ·rw [if_neg e, if_neg e]
  show (if j + 1000 = up1 id then b else U (j + 1000)).map (AI.ren dn1) = (U (j + 1000)).map (AI.ren dn1)
  rw [if_neg (show ¬ j + 1000 = up1 id by unfold up1; omega)]
theorem Lk {U : AA} {i : Nat} {b : AI} (h : Ah (AE U i (some b))) (hU : U i = none) : Ah U := fun j c hc => h j c (by
 rw [AG _ (fun e => by rw [e, hU] at hc; cases hc)]
 exact hc)
def NV (n : Nat) (env : Nat → AV) : Nat → AV := fun i => if i < n then (env i).ren up1 else .any
theorem MO {n : Nat} {env : Nat → AV} : (fun i => ((AV.rens up1 (Bs n env))[i]?).getD .any) = NV n env := by
 funext i
 unfold NV Bs
 rw [AV.rens_eq, List.map_map, List.getElem?_map]
 by_cases h : i < n
 ·rw [if_pos h, List.getElem?_range h]
  rfl
 ·rw [if_neg h, List.getElem?_eq_none (by simp; omega)]
  rfl
theorem IWP.rangeF {g : Opd} {ps : List Nat} (htop : C.Top) (id : Nat) (hid : id < 1000) (hfree : s.S id = none) {f : Nat} {caps : List AC} (hg : s.ev g = .one (.fn f caps)) (hpl : Bu P f = true) {α : Type} {encs : α → List AV} {all : List α} {Need : AA → Prop} (hit : Ol P f (AV.rens up1 (caps.map .one)) Need encs all)
  (hlen : ∀ v, (encs v).length = ps.length) (Inv : List α → AA → Prop) (Jx : AX → AA → Prop) (h0 : Inv [] (upS s.S)) (hneed : ∀ pre U b, Inv pre U → U (up1 id) = none → Need (AE U (up1 id) (some b)))
  (hbody : ∀ (C' : Ctx) (b0 b1 : AI) (pre : List α) (v : α) (U : AA), C'.n = C.n → (pre ++ [v]) <+: all → Inv pre U → U (up1 id) = none → Ah U → b1.high = true →
   IWP P C' mu x (AX.then (fun s1 => s1.S (up1 id) = some b0 ∧ IWP P C' mu y (Md C' (up1 id) b1 (Inv (pre ++ [v])) Jx) (s1.set (up1 id) b1)) fun _ _ => False) ⟨Io (NV C.n s.env) ps (encs v), AE U (up1 id) (some b0)⟩)
  (hdone : ∀ U, Inv all U → Q .normal ⟨s.env, AE (dnS U) id (some (.dead 1 0))⟩) (hjump : ∀ e U, Jx e U → Q e ⟨s.env, AE (dnS U) id (some (.dead 1 0))⟩) : IWP P C mu (.rangeF g ps x y) Q s := fun c hc a w hH => by
 obtain ⟨g', ps', ca, cb, rfl, hg', rfl, hx, hy⟩ := G8 hc
 obtain ⟨σ, ι, R⟩ := hH
 have rg := R.ev hg'
 rw [hg] at rg
 replace rg := AO rg
 generalize hev : a.eval g' = fv at rg
 cases rg with
 | @fn _ vc _ cc g1 g2 g3 =>
 refine wpIn_rangeFunc fun fn hfn => ?_
 obtain ⟨rec, hrec⟩ : ∃ rec : LoopState → Option Code → Loop, rec = fun st pe => { state := st, pending := pe, fn, tmps := a.tmps, params := ps', assign := ca, body := cb, defers := w.heap.size } := ⟨_, rfl⟩
 obtain ⟨w1, hw1⟩ : ∃ w1, (w.alloc (.deferred (some []))).alloc (.loop (rec .ready none)) = w1 := ⟨_, rfl⟩
 have hsz : (w.alloc (.deferred (some []))).heap.size = w.heap.size + 1 := World.size_alloc _ _
 have R1 : AJ C σ ι s { a with defers := Jr w.heap.size :: a.defers } (w.alloc (.deferred (some []))) := by
  have R' := R.more (w' := w.alloc (.deferred (some []))) (Ext.refl _ _) (R.fit.alloc _) (Cd.alloc _ _)
  refine { R' with nod := ?_ }
  obtain ⟨l, h1, h2, h3, _⟩ := R.nod
  refine ⟨w.heap.size :: l, by show _ :: a.defers = _; rw [h1]; rfl, List.nodup_cons.2 ⟨fun hm => ?_, h2⟩, fun D hD => ?_, fun hm => by rw [htop.2] at hm; cases hm⟩
  ·have := (Array.getElem?_eq_some_iff.1 (h3 _ hm).2).1
   omega
  ·rcases List.mem_cons.1 hD with rfl | hD
   ·exact ⟨R.grown.1, World.alloc_heap_new w _⟩
   ·exact ⟨(h3 D hD).1, (Below.heap_alloc _ _ _ (Array.getElem?_eq_some_iff.1 (h3 D hD).2).1).trans (h3 D hD).2⟩
 have hsize := R.size
 obtain ⟨hu2, R2⟩ := R1.fresh (w' := w1) hfree (.loop (Bs C.n s.env) (rec .ready none)) ⟨none, 0, some (w.heap.size + 1)⟩ (Ext.refl _ _) (by rw [← hw1]; exact R1.fit.alloc _) (by rw [← hw1]; exact Cd.alloc _ _) (fun g hg => by cases hg; omega) (fun S' ι' hu => .loop (g := w.heap.size + 1) rfl (by rw [← hw1, ← hsz]; exact World.alloc_heap_new _ _) (by rw [Hc, hrec]; exact hsize) (fun j b hb => by
   obtain ⟨hj, rfl⟩ := Mm hb
   rw [hrec]
   exact (R.env j hj).mono (fun _ _ h => h) hu) (fun p hp => R1.fit.no (by rw [hsz]; omega)))
 have hl2 : (AE ι id (⟨none, 0, some (w.heap.size + 1)⟩ : Hnd) id).g = some (w.heap.size + 1) := by rw [AB]
 generalize AE ι id (⟨none, 0, some (w.heap.size + 1)⟩ : Hnd) = ι2 at R2 hl2 hu2
 obtain ⟨ι3, hι3, hown, hren, hend⟩ := R2.upped
 have hargs : AP (AL σ (upS (s.set id (.loop (Bs C.n s.env) (rec .ready none))).S) ι3) (.func (.yield (w.heap.size + 1)) #[] #[] :: vc.toList) (.one (.yld (up1 id)) :: AV.rens up1 (caps.map .one)) := by
  have hS2 : (s.set id (.loop (Bs C.n s.env) (rec .ready none))).S id = some (.loop (Bs C.n s.env) (rec .ready none)) := AB _ _ _
  refine .cons (hren _ _ (.one (.yld hS2 (Nat.le_refl _) rfl fun _ => ⟨_, hl2, rfl⟩))) ?_
  rw [AV.rens_eq]
  refine (AP.mono (fun v c h => hren v c h) ?_).map_right
  refine (AP.of_get (R := fun v c => AL σ (s.set id (.loop (Bs C.n s.env) (rec .ready none))).S ι2 v (.one c)) (by simpa using g1) fun j v b hv hb => ?_).map_right
  have e := g2 j b hb
  have e2 : vc.toList[j]? = some (cc j) := by simpa using e
  rw [hv] at e2
  cases e2
  exact .one ((g3 j b hb).mono (fun _ _ h => h) hu2)
 have hcl := HW (s.set id (.loop (Bs C.n s.env) (rec .ready none))).S
 have hTeq : upS (s.set id (.loop (Bs C.n s.env) (rec .ready none))).S = AE (upS s.S) (up1 id) (some (.loop (AV.rens up1 (Bs C.n s.env)) (rec .ready none))) := Nq _ _ _
 have hcall := hit (up1 id) (fun pre T => ∃ U, T = AE U (up1 id) (some (.loop (AV.rens up1 (Bs C.n s.env)) (rec .ready none))) ∧ U (up1 id) = none ∧ Inv pre U)
  (fun T => ∃ U c e, T = AE U (up1 id) (some (.loop (AV.rens up1 (Bs C.n s.env)) (rec .done (some c)))) ∧ U (up1 id) = none ∧ N0 c e ∧ Jx e U)
  _ (BT id) (fun pre T hT => by
   obtain ⟨U, rfl, hU, hI⟩ := hT
   exact hneed pre U _ hI hU) (fun pre v hpre T hT => by
   obtain ⟨U, rfl, hU, hI⟩ := hT
   exact NH hx hy (by rw [AV.rens_eq, List.length_map, Hc]) (BT id) hrec (by rw [hlen]; simp) hU fun hc C' hC' => by
    rw [MO]
    exact hbody C' _ (.loop (AV.rens up1 (Bs C.n s.env)) (rec .busy none)) pre v U hC' hpre hI hU (Lk hc hU) (AV.rens_high _))
  ⟨_, hTeq, by rw [Ca, hfree]; rfl, h0⟩ hcl σ w1 _ ι3 (C.glob.mono R.ext) R2.fit hown hargs
 refine ⟨w.heap.size + 1, [Jr w.heap.size], w1, { target := .fn (.func f) vc, args := #[.func (.yield (w.heap.size + 1)) #[] #[]] }, w1, f, #[.func (.yield (w.heap.size + 1)) #[] #[]] ++ vc, w1, ?_, ?_, fun _ _ => trivial, ?_, fun h => by simp [fen, Fence.wide] at h, ?_⟩
 ·have hr : (fen C.ro).round = none := htop.1
  rw [hr, ← hw1, hrec]
  exact run_enterLoop_outer _ _ _ _ _
 ·simp only [resolve, hev]
  simp [go_sem]
 ·have := CS (P := P) (w := w1) (args := #[.func (.yield (w.heap.size + 1)) #[] #[]] ++ vc) hpl
  simp [invoke, go_sem, this]
 ·have he0 : (Value.func (.yield (w.heap.size + 1)) #[] #[] :: vc.toList).toArray = #[.func (.yield (w.heap.size + 1)) #[] #[]] ++ vc := by
   apply Array.ext'
   simp
  rw [he0] at hcall
  refine Fe (hcall.mono fun e w2 he => ?_)
  obtain ⟨v, r, S', σ', ι4, rfl, hP, hS', hu4, R4⟩ := hend he
  have hl4 : ∀ {b : AI}, dnS S' id = some b → b.len = 1 → (ι4 id).g = some (w.heap.size + 1) := fun hb hb1 => by
   obtain ⟨b', h1, h2, h3⟩ := hu4 id _ (show (s.set id (.loop (Bs C.n s.env) (rec .ready none))).S id = some _ from AB _ _ _)
   rw [hb] at h1
   cases h1
   rw [(h3 hb1).2]
   exact hl2
  have fin : ∀ (U : AA) (env : List AV) (st : LoopState) (pe : Option Code), st ≠ .busy → S' = AE U (up1 id) (some (.loop env (rec st pe))) → ∃ w3, (Instr.endLoop (w.heap.size + 1)).run P w2 = .ok pe w3 ∧ Ar C ⟨s.env, AE (dnS U) id (some (.dead 1 0))⟩ { a with defers := Jr w.heap.size :: a.defers } w3 := fun U env st pe hst hS => by
   have hb : dnS S' id = some (.loop (AV.rens dn1 env) (rec st pe)) := by
    have := GY (BT id) (show S' (up1 id) = some (.loop env (rec st pe)) by rw [hS]; exact AB _ _ _)
    rw [Gp] at this
    exact this
   have hg4 := hl4 hb rfl
   cases hbr : R4.blk id _ hb with
   | loop k1 k2 k3 k4 k5 =>
    rw [hg4] at k1
    cases k1
    obtain ⟨ι5, R5, _⟩ := R4.setBlk (b' := .dead 1 0) (o' := .loop { rec st pe with state := .exhausted }) hb hg4 k2 k5 rfl rfl fun S'' ι'' hu => .dead fun g' hg' => by
     rw [hg4] at hg'
     cases hg'
     exact ⟨_, (CE k2).1, rfl⟩
    refine ⟨w2.putObj (w.heap.size + 1) (.loop { rec st pe with state := .exhausted }), ?_, σ', ι5, ?_⟩
    ·have := run_endLoop (P := P) k2 (by rw [hrec]; exact hst)
     rw [hrec] at this ⊢
     exact this
    ·have e5 : (AS.set ⟨(s.set id (.loop (Bs C.n s.env) (rec .ready none))).env, dnS S'⟩ id (.dead 1 0)) = ⟨s.env, AE (dnS U) id (some (.dead 1 0))⟩ := by
      show AS.mk s.env (AE (dnS S') id _) = _
      rw [hS, Nv]
     rw [← e5]
     exact R5
  rcases hP with ⟨U, h1, h2, h3⟩ | ⟨U, c, e, h1, h2, h3, h4⟩
  ·obtain ⟨w3, f1, f2⟩ := fin U _ .ready none (by simp) h1
   exact ⟨none, w3, f1, _, hdone U h3, f2⟩
  ·obtain ⟨w3, f1, f2⟩ := fin U _ .done (some c) (by simp) h1
   refine ⟨some c, w3, f1, ?_⟩
   cases h3 with
   | ret => exact wpIn_ret ⟨_, hjump _ U h4, f2⟩
   | exit i => exact wpIn_exit ⟨_, hjump _ U h4, f2⟩
end

set_option linter.unusedSimpArgs false
set_option maxHeartbeats 1000000
section
variable {C : Ctx} {s : AS}
theorem AZ.ice (t : Nat) {id : Nat} {e : TypeId} {cs : List AC} {xs : List SV} (hS : s.S id = some (.box e cs)) (hc : stCs s.S cs = some xs) (ht : s.env t = .one (.ptr id 1 0 0)) (hn : t < C.n) : AZ C s ⟨AE s.env t (.one (.eptr xs)), AE s.S id (some (.dead 1 0))⟩ := fun a w ⟨σ, ι, R⟩ => by
 have hb := R.blk _ _ hS
 cases hb with
 | @box _ _ g vs h1 h2 h3 h4 h5 =>
  have hsc := R.stCs h4 hc
  have hkeep := Dy (σ := σ) (w' := w) (g := g) (k := vs.size) (fun p x ep hx => by rw [h5 _ ep] at hx; cases hx)
  obtain ⟨hu, R'⟩ := R.turn (w' := w) hS (.dead 1 0) (ι id) (σ' := Ce σ w g vs.size) hkeep (fun p hp _ => Dl (fun e => hp (by rw [e]; exact h1))) (Cu R.fit) (Nat.le_refl _) (fun _ => ⟨rfl, rfl⟩) ⟨rfl, rfl, rfl⟩ (Nat.le_refl _) (fun _ _ _ => rfl) (fun g h => .inl h) (fun hu => .dead fun g' hg' => ⟨_, (by rw [h1] at hg'; cases hg'; exact h3), rfl⟩)
  refine ⟨_, _, { R' with env := fun i hi => ?_ }⟩
  show AL _ _ _ _ (AE s.env t _ i)
  unfold AE
  split
  ·rename_i hit
   subst hit
   have := R.env i hi
   rw [ht] at this
   have hv := AO this
   generalize a.tmps.getD i undef = v at hv
   cases hv with
   | ptr k1 k2 k3 k4 =>
    rw [hS] at k1
    cases k1
    obtain ⟨g', q1, q2⟩ := k4 rfl
    rw [h1] at q1
    cases q1
    rw [q2]
    have key : ∀ j x, xs[j]? = some x → ∃ v, vs[j]? = some v ∧ Aa σ v x := fun j x hx => by
     obtain ⟨v, v1, v2⟩ := hsc.get hx
     exact ⟨v, by simpa using v1, v2⟩
    have hlen : vs.size = xs.length := by simpa using hsc.len
    refine .one (.eptr (o := 0) (fun j => (vs[j]?).getD undef) (fun j x hx => ?_) (fun j x hx => ?_) (fun _ q => ?_))
    ·obtain ⟨v, v1, v2⟩ := key j x hx
     have hj : j < vs.size := (Array.getElem?_eq_some_iff.1 v1).1
     rw [Nat.zero_add, IK hj, cell_of_row w g _ _ _ _ h3]
     simp [v1]
    ·obtain ⟨v, v1, v2⟩ := key j x hx
     rw [v1]
     exact v2.mono hkeep
    ·rw [FB (by omega), D5 h3]
  ·exact R'.env i hi
end

theorem AZ.toRef {C : Ctx} {s : AS} (t : Nat) {cs : List SV} (ht : s.env t = .one (.eptr cs)) (hn : t < C.n) : AZ C s ⟨AE s.env t (.one (.st (.ref cs))), s.S⟩ := fun a w ⟨σ, ι, R⟩ => by
 have hv := R.env t hn
 rw [ht] at hv
 refine ⟨σ, ι, { R with env := fun i hi => ?_ }⟩
 show AL σ s.S ι _ (AE s.env t _ i)
 by_cases hi' : i = t
 ·subst hi'
  rw [AB]
  exact .one (.st (Me (AO hv)))
 ·rw [AG _ hi']
  exact R.env i hi

theorem IWP.at_ {P : Program} {C : Ctx} {mu : List Nat} {x : IR} {Q : AX → AS → Prop} {env0 : Nat → AV} {S0 : AA} (M : (Nat → AV) → AA → Prop) (hM : M env0 S0) (h : ∀ env S, M env S → IWP P C mu x Q ⟨env, S⟩) : IWP P C mu x Q ⟨env0, S0⟩ := h _ _ hM
section
variable {C : Ctx} {s : AS}
theorem AZ.ownCM (id j nid : Nat) (e : TypeId) (wd : Nat) {ty : TypeId} {cs : List AC} (hb : s.S id = some (.box ty cs)) (hc : cs[j]? = some (.full [])) (hn : s.S nid = none) :
  AZ C s ((s.set nid (.mrow e wd [])).set id (.box ty (cs.set j (.row nid 0)))) := fun a w ⟨σ, ι, R⟩ => by
 have hbk := R.blk id _ hb
 have hne : id ≠ nid := fun e => by subst e; rw [hb] at hn; cases hn
 cases hbk with
 | @box _ _ g vs h1 h2 h3 h4 h5 =>
  obtain ⟨v, hv, hr⟩ := h4.get hc
  cases hr with
  | @full p len _ hs =>
   have hl : len = 0 := by
    obtain ⟨p', cap', e1, _⟩ := Bf hs
    cases e1
    rfl
   subst hl
   obtain ⟨hu, R'⟩ := R.fresh (w' := w) hn (.mrow e wd []) ⟨p, 0, none⟩ (Ext.refl _ _) R.fit (Below.refl _ _) (by simp) (fun S' ι' hu => .mnil rfl rfl)
   have hb' : (s.set nid (.mrow e wd [])).S id = some (.box ty cs) := by simp [AS.set, AG _ hne, hb]
   have hι : AE ι nid ⟨p, 0, none⟩ id = ι id := AG _ hne _
   obtain ⟨hu2, R2⟩ := R'.turn (w' := w) hb' (.box ty (cs.set j (.row nid 0))) (AE ι nid ⟨p, 0, none⟩ id) (σ' := σ) (fun _ _ h => h) (fun _ _ _ => rfl) R.fit (Nat.le_refl _) (fun _ => ⟨by simp [AI.wid], rfl⟩) ⟨rfl, rfl, rfl⟩ (Nat.le_refl _) (fun _ _ _ => rfl) (fun g h => .inl h) (fun hu2 => by
    refine .box (by rw [hι]; exact h1) (by rw [hι]; exact h2) h3 (AP.of_get (by rw [List.length_set]; exact h4.len) fun k u c hu' hck => ?_) h5
    by_cases hk : k = j
    ·subst hk
     rw [hv] at hu'
     cases hu'
     have hlt : k < cs.length := (List.getElem?_eq_some_iff.1 hc).1
     rw [List.getElem?_set_self hlt] at hck
     cases hck
     exact .row (b := .mrow e wd []) (by simp [AS.set, AE, hne.symm]) (Nat.le_refl _) rfl fun _ => by simp [AE, hne.symm]
    ·rw [List.getElem?_set_ne (fun e => hk e.symm)] at hck
     obtain ⟨u', q1, q2⟩ := h4.get hck
     rw [hu'] at q1
     cases q1
     exact (q2.mono (fun _ _ h => h) hu).mono (fun _ _ h => h) hu2)
   exact ⟨_, _, R2⟩
end

set_option maxHeartbeats 4000000
abbrev GB (t : Tm) : List SV := [.str t.name, .list (t.args.map BY)]
def D6 : Option Tm → SV
 | none => .lit (.pointer none)
 | some t => .ref (GB t)
def D7 (o : Option Tm) : List SV := [D6 o]
abbrev Ou (m : Mv) : AI := .box 50 [.st (.str m.name), .st (.list (m.frm.map CO)), .st (.int .i64 m.to_)]
abbrev Nu : AI := .box 28 [.st (.str ⟨#[]⟩), .full []]
theorem Oc {best : Ab} {i : Nat} (h : i < best.length) : ∃ o, best[i]? = some o ∧ best.getD i none = o := by
 refine ⟨best[i], List.getElem?_eq_getElem h, ?_⟩
 rw [List.getD_eq_getElem?_getD, List.getElem?_eq_getElem h]
 rfl
def Ke (o : Option Tm) : AV := match o with
 | none => .tup [aTm Tm.nil, AR 7]
 | some t => .tup [aTm t, AR 0]
theorem ON {a : Au} (ha : a.may 8 40 = 0) : ∀ m ∈ a.moves, Fn m := fun m hm => by
 have h := Mv.err_ok.1 ((Au.may_ok.1 ha).2.1 m hm)
 exact ⟨h.1, h.2.1⟩
theorem N1 {m : Mv} (h : Fn m) : ¬ m.name = ⟨#[]⟩ := fun e => by
 have := h.1.1
 rw [e] at this
 exact absurd this (by decide)
theorem La {ms : List Mv} {k : Nat} {m : Mv} {best : Ab} (hm : ms[k]? = some m) : (ms.take (k + 1)).foldl A8 (best, false) = A8 ((ms.take k).foldl A8 (best, false)) m := by
 rw [A2 hm, List.foldl_append]
 rfl
theorem I_ (best : Ab) (i : Nat) (t : Tm) : (best.map D7).set i [.ref (GB t)] = (best.set i (some t)).map D7 := by
 rw [List.map_set]
 rfl
theorem JU {b : Nat} : ∀ {ts : List Tm}, (∀ t ∈ ts, t.size ≤ b) → Tm.sizes ts ≤ b * ts.length
 | [], _ => by simp [Tm.sizes]
 | t :: ts, h => by
  have h1 := JU fun x hx => h x (List.mem_cons_of_mem _ hx)
  have h2 := h t (by simp)
  rw [Tm.sizes, List.length_cons, Nat.mul_add]
  omega
theorem Nk {ts : List Tm} {j : Nat} (h : ts.length = j) (y : List SV) : (ts.map BY ++ [y])[j]? = some y := by
 subst h
 simp
theorem OB {ts : List Tm} {j : Nat} (h : ts.length = j) (y z : List SV) : (ts.map BY ++ [y]).set j z = ts.map BY ++ [z] := by
 subst h
 rw [List.set_append_right _ _ (by simp)]
 simp
theorem OK (a : Au) (hl : a.last.length ≤ 100000) (ha : a.may 8 40 = 0) {n : Nat} {out : Ab} (hout : Eh a.moves n (Cq a) out) : Ac Try.prog 13 [aAu a] (Ke (DT out a.last)) := by
 have ga := Au.may_good ha
 have hst := ga.states
 obtain ⟨a1, _, _⟩ := Au.may_ok.1 ha
 have hmv := ON ha
 have hnl : (Cq a).length = a.states.toNat := by simp [Cq]
 obtain ⟨hoo, hol⟩ := Gl hmv (EU a) hout
 have hrep : (Cq a).map D7 = List.replicate a.states.toNat [SV.lit (.pointer none)] := by
  rw [Cq, List.map_replicate]
  rfl
 have hts : ((a.states.toNat : Nat) : Int) = a.states := by omega
 refine Hy.ac fun C hC => ?_
 unfold Ex
 repeat' (first | (with_reducible first | refine W ?_ | refine Z0 ?_ | ((first | refine Wo fun K hK => ?_ | refine Wp ?_ | refine Wq ?_ | refine Wr ?_); (try simp only [go_sem, fN, seval, eT, iR, ha, hrep, dT, dF, nL]); (repeat refine Ai ?_); (try (refine hK _ ?_; clear hK K)); try refine iC ?_)) | refine Cg _ (CW a) ?_)
 refine IWP.loopD [8, 9, 959] (fun q s => ∃ n more best, q = (if more = true then n + 1 else 0) ∧ (if more = true then Eh a.moves n best out else best = out) ∧ CZ best ∧ best.length = a.states.toNat ∧ s.env 1 = .one (.ptr 1 1 0 0) ∧ s.env 2 = .one (.ptr 2 1 0 0) ∧ s.S 1 = some (Aq a) ∧ s.S 2 = some Nu ∧ s.env 5 = .one (.row 23 a.states.toNat) ∧ s.S 23 = some (.mrow 65 1 (best.map D7)) ∧ s.env 6 = BX more ∧ s.S 8 = none ∧ s.S 9 = none ∧ s.S 959 = none) (n + 1)
  ⟨n, true, Cq a, rfl, hout, EU a, hnl, rfl, rfl, rfl, rfl, ?_, ?_, rfl, rfl, rfl, rfl⟩ ?_
 ·simp only [go_sem, fN, seval, eT, iR, hts, ga.states]
 ·simp only [go_sem, fN, seval, eT, iR, hts, hrep]
 rintro q ⟨env, St⟩ ⟨n, more, best0, rfl, hends, hob, hbl, e1, e2, s1, s2, e5, s23, e6, s8, s9, s959⟩
 simp only at e1 e2 s1 s2 e5 s23 e6 s8 s9 s959
 unfold Aq at s1
 cases more with
 | false =>
  rw [if_neg (by decide)] at hends
  subst hends
  repeat' with_reducible first | refine W ?_ | refine Z0 ?_ | ((first | refine Wo fun K hK => ?_ | refine Wp ?_ | refine Wq ?_ | refine Wr ?_); (try simp only [go_sem, fN, seval, eT, iR, e1, e2, s1, s2, e5, s23, e6, s8, s9, s959, dT, dF, nL]); (repeat refine Ai ?_); (try (refine hK _ ?_; clear hK K)); try refine iC ?_)
  refine IWP.loop (fun q s => ∃ k, k ≤ a.last.length ∧ q = a.last.length - k ∧ s.env 2 = .one (.ptr 2 1 0 0) ∧ s.S 2 = some Nu ∧ s.env 5 = .one (.row 23 a.states.toNat) ∧ s.S 23 = some (.mrow 65 1 (best0.map D7)) ∧ s.env 12 = .one (.st (D6 (DT best0 (a.last.take k)))) ∧ s.env 93 = .one (.st (.list (a.last.map CO))) ∧ s.env 94 = AR a.last.length ∧ s.env 95 = AR k ∧ ∀ t, DT best0 (a.last.take k) = some t → Eo t) a.last.length
   ⟨0, Nat.zero_le _, rfl, by simp only [go_sem, fN, seval, eT, iR, e2], by simp only [go_sem, fN, seval, eT, iR, s2], by simp only [go_sem, fN, seval, eT, iR, e5], by simp only [go_sem, fN, seval, eT, iR, s23], by simp only [go_sem, fN, seval, eT, iR]; rfl, by simp only [go_sem, fN, seval, eT, iR], by simp only [go_sem, fN, seval, eT, iR], by simp only [go_sem, fN, seval, eT, iR], fun t h => by cases h⟩ ?_
  rintro q ⟨env1, S1⟩ ⟨k, hk, rfl, f2, t2, f5, t23, f12, f93, f94, f95, hpk⟩
  simp only at f2 t2 f5 t23 f12 f93 f94 f95
  by_cases hlt : (k : Int) < a.last.length
  ·obtain ⟨x, hx⟩ := BB (show k < a.last.length by omega)
   have qx := ga.last x (AW hx)
   have hsn : DT best0 (a.last.take (k + 1)) = Df best0 (DT best0 (a.last.take k)) x := by
    unfold DT
    rw [A2 hx, List.foldl_append]
    rfl
   obtain ⟨o, ho, hod⟩ := Oc (best := best0) (i := x.toNat) (by omega)
   have hxb : x.toNat < best0.length := by omega
   unfold Df at hsn
   rw [hod] at hsn
   generalize DT best0 (a.last.take k) = o0 at f12 hpk hsn
   cases o with
   | none =>
    simp only at hsn
    repeat' with_reducible first | refine W ?_ | refine Z0 ?_ | ((first | refine Wo fun K hK => ?_ | refine Wp ?_ | refine Wq ?_ | refine Wr ?_); (try simp only [go_sem, fN, seval, eT, iR, f2, t2, f5, t23, f12, f93, f94, f95, hlt, hx, ho, D7, D6, hbl, hts, dT, dF, nL]); (repeat refine Ai ?_); (try (refine hK _ ?_; clear hK K)); try refine iC ?_)
    refine AK ⟨a.last.length - (k + 1), by omega, k + 1, by omega, rfl, ?_⟩
    simp only [go_sem, fN, seval, eT, iR, f2, t2, f5, t23, f12, f93, f94, f95, hsn]
    exact ⟨by cases o0 <;> rfl, by simp, hpk⟩
   | some t =>
    have htk : Eo t := hob t (List.mem_of_getElem? ho)
    cases o0 with
    | none =>
     simp only at hsn
     repeat' with_reducible first | refine W ?_ | refine Z0 ?_ | ((first | refine Wo fun K hK => ?_ | refine Wp ?_ | refine Wq ?_ | refine Wr ?_); (try simp only [go_sem, fN, seval, eT, iR, f2, t2, f5, t23, f12, f93, f94, f95, hlt, hx, ho, D7, D6, hbl, hts, dT, dF, nL]); (repeat refine Ai ?_); (try (refine hK _ ?_; clear hK K)); try refine iC ?_)
     refine AK ⟨a.last.length - (k + 1), by omega, k + 1, by omega, rfl, ?_⟩
     simp only [go_sem, fN, seval, eT, iR, f2, t2, f5, t23, f12, f93, f94, f95, hsn, D6]
     exact ⟨by simp, fun t' h' => by cases h'; exact htk⟩
    | some u =>
     simp only at hsn
     have hu := hpk u rfl
     have hL := MK t u htk hu
     cases hlu : Ck t u with
     | true =>
      rw [hlu] at hL hsn
      rw [if_pos rfl] at hsn
      repeat' (first | (with_reducible first | refine W ?_ | refine Z0 ?_ | ((first | refine Wo fun K hK => ?_ | refine Wp ?_ | refine Wq ?_ | refine Wr ?_); (try simp only [go_sem, fN, seval, eT, iR, f2, t2, f5, t23, f12, f93, f94, f95, hlt, hx, ho, D7, D6, hbl, hts, dT, dF, nL]); (repeat refine Ai ?_); (try (refine hK _ ?_; clear hK K)); try refine iC ?_)) | refine Cg _ (hL) ?_)
      refine AK ⟨a.last.length - (k + 1), by omega, k + 1, by omega, rfl, ?_⟩
      simp only [go_sem, fN, seval, eT, iR, f2, t2, f5, t23, f12, f93, f94, f95, hsn, D6]
      exact ⟨by simp, fun t' h' => by cases h'; exact htk⟩
     | false =>
      rw [hlu] at hL hsn
      rw [if_neg (by decide)] at hsn
      repeat' (first | (with_reducible first | refine W ?_ | refine Z0 ?_ | ((first | refine Wo fun K hK => ?_ | refine Wp ?_ | refine Wq ?_ | refine Wr ?_); (try simp only [go_sem, fN, seval, eT, iR, f2, t2, f5, t23, f12, f93, f94, f95, hlt, hx, ho, D7, D6, hbl, hts, dT, dF, nL]); (repeat refine Ai ?_); (try (refine hK _ ?_; clear hK K)); try refine iC ?_)) | refine Cg _ (hL) ?_)
      refine AK ⟨a.last.length - (k + 1), by omega, k + 1, by omega, rfl, ?_⟩
      simp only [go_sem, fN, seval, eT, iR, f2, t2, f5, t23, f12, f93, f94, f95, hsn, D6]
      exact ⟨by simp, fun t' h' => by cases h'; exact hu⟩
  ·rw [List.take_of_length_le (l := a.last) (i := k) (by omega)] at f12 hpk
   generalize DT best0 a.last = o at *
   cases o with
   | none =>
    repeat' with_reducible first | refine W ?_ | refine Z0 ?_ | ((first | refine Wo fun K hK => ?_ | refine Wp ?_ | refine Wq ?_ | refine Wr ?_); (try simp only [go_sem, fN, seval, eT, iR, f2, t2, f5, t23, f12, f93, f94, f95, hlt, D6, dT, dF, nL]); (repeat refine Ai ?_); (try (refine hK _ ?_; clear hK K)); try refine iC ?_)
    simp only [go_sem, fN, seval, Af, AS.result, AH, AM, AY, f2, t2]
    rfl
   | some t =>
    have htk := hpk t rfl
    have := htk.2
    repeat' (first | (with_reducible first | refine W ?_ | refine Z0 ?_ | ((first | refine Wo fun K hK => ?_ | refine Wp ?_ | refine Wq ?_ | refine Wr ?_); (try simp only [go_sem, fN, seval, eT, iR, f2, t2, f5, t23, f12, f93, f94, f95, hlt, D6, dT, dF, nL]); (repeat refine Ai ?_); (try (refine hK _ ?_; clear hK K)); try refine iC ?_)) | refine Cg _ (Oh t (by omega)) ?_)
    simp only [go_sem, fN, seval, Af, AS.result, AH, AM, AY, f2, t2]
    rfl
 | true =>
  rw [if_pos rfl] at hends
  repeat' with_reducible first | refine W ?_ | refine Z0 ?_ | ((first | refine Wo fun K hK => ?_ | refine Wp ?_ | refine Wq ?_ | refine Wr ?_); (try simp only [go_sem, fN, seval, eT, iR, e1, e2, s1, s2, e5, s23, e6, s8, s9, s959, dT, dF, nL]); (repeat refine Ai ?_); (try (refine hK _ ?_; clear hK K)); try refine iC ?_)
  refine IWP.loopD [8, 9, 959] (fun q s => ∃ k p, k ≤ a.moves.length ∧ q = a.moves.length - k ∧ p = (a.moves.take k).foldl A8 (best0, false) ∧ s.env 1 = .one (.ptr 1 1 0 0) ∧ s.env 2 = .one (.ptr 2 1 0 0) ∧ s.S 1 = some (Aq a) ∧ s.S 2 = some Nu ∧ s.env 5 = .one (.row 23 a.states.toNat) ∧ s.S 23 = some (.mrow 65 1 (p.1.map D7)) ∧ s.env 6 = BX p.2 ∧ s.env 26 = .one (.st (.list (a.moves.map BK))) ∧ s.env 27 = AR a.moves.length ∧ s.env 28 = AR k ∧ s.S 8 = none ∧ s.S 9 = none ∧ s.S 959 = none) a.moves.length
   ⟨0, (best0, false), Nat.zero_le _, rfl, rfl, by simp only [go_sem, fN, seval, eT, iR, e1], by simp only [go_sem, fN, seval, eT, iR, e2], by simp only [go_sem, fN, seval, eT, iR, s1, Aq], by simp only [go_sem, fN, seval, eT, iR, s2], by simp only [go_sem, fN, seval, eT, iR, e5], by simp only [go_sem, fN, seval, eT, iR, s23], by simp only [go_sem, fN, seval, eT, iR], by simp only [go_sem, fN, seval, eT, iR], by simp only [go_sem, fN, seval, eT, iR], by simp only [go_sem, fN, seval, eT, iR], by simp only [go_sem, fN, seval, eT, iR, s8], by simp only [go_sem, fN, seval, eT, iR, s9], by simp only [go_sem, fN, seval, eT, iR, s959]⟩ ?_
  rintro q ⟨env1, S1⟩ ⟨k, p, hk, rfl, hp, f1, f2, t1, t2, f5, t23, f6, f26, f27, f28, t8, t9, t959⟩
  simp only at f1 f2 t1 t2 f5 t23 f6 f26 f27 f28 t8 t9 t959
  unfold Aq at t1
  by_cases hlt : (k : Int) < a.moves.length
  ·obtain ⟨m, hm⟩ := BB (show k < a.moves.length by omega)
   have hmm := AW hm
   have hto := ga.to_ m hmm
   have hfr := ga.frm m hmm
   have hok := hmv m hmm
   have hne := N1 hok
   have hsn := La (best := best0) hm
   rw [← hp] at hsn
   have hpo : CZ p.1 := by rw [hp]; exact Cx hob fun x hx => hmv x (List.mem_of_mem_take hx)
   have hpl : p.1.length = a.states.toNat := by rw [hp, CR]; exact hbl
   repeat' with_reducible first | refine W ?_ | refine Z0 ?_ | ((first | refine Wo fun K hK => ?_ | refine Wp ?_ | refine Wq ?_ | refine Wr ?_); (try simp only [go_sem, fN, seval, eT, iR, f1, f2, t1, t2, f5, t23, f6, f26, f27, f28, t8, t9, t959, hlt, hm, BK, dT, dF, nL]); (repeat refine Ai ?_); (try (refine hK _ ?_; clear hK K)); try refine iC ?_)
   refine IWP.ghost (AZ.ownCM 9 1 959 28 2 (ty := 28) (cs := [.st (.str m.name), .full []]) (by simp only [go_sem, fN, seval, eT, iR]) rfl (by simp only [go_sem, fN, seval, eT, iR, t959])) ?_
   refine IWP.loop (fun q s => ∃ j ts, j ≤ m.frm.length ∧ q = m.frm.length - j ∧ BO p.1 (m.frm.take j) = some ts ∧ ts.length = j ∧ s.env 1 = .one (.ptr 1 1 0 0) ∧ s.env 2 = .one (.ptr 2 1 0 0) ∧ s.S 1 = some (Aq a) ∧ s.S 2 = some Nu ∧ s.env 5 = .one (.row 23 a.states.toNat) ∧ s.S 23 = some (.mrow 65 1 (p.1.map D7)) ∧ s.env 6 = BX p.2 ∧ s.env 26 = .one (.st (.list (a.moves.map BK))) ∧ s.env 27 = AR a.moves.length ∧ s.env 28 = AR k ∧ s.env 8 = .one (.ptr 8 1 0 0) ∧ s.S 8 = some (Ou m) ∧ s.env 9 = .one (.ptr 9 1 0 0) ∧ s.S 9 = some (.box 28 [.st (.str m.name), .row 959 j]) ∧ s.S 959 = some (.mrow 28 2 (ts.map BY)) ∧ s.env 36 = .one (.st (.list (m.frm.map CO))) ∧ s.env 37 = AR m.frm.length ∧ s.env 38 = AR j) m.frm.length
    ⟨0, [], Nat.zero_le _, rfl, rfl, rfl, by simp only [go_sem, fN, seval, eT, iR, f1], by simp only [go_sem, fN, seval, eT, iR, f2], by simp only [go_sem, fN, seval, eT, iR, t1, Aq], by simp only [go_sem, fN, seval, eT, iR, t2], by simp only [go_sem, fN, seval, eT, iR, f5], by simp only [go_sem, fN, seval, eT, iR, t23], by simp only [go_sem, fN, seval, eT, iR, f6], by simp only [go_sem, fN, seval, eT, iR, f26], by simp only [go_sem, fN, seval, eT, iR, f27], by simp only [go_sem, fN, seval, eT, iR, f28], by simp only [go_sem, fN, seval, eT, iR], by simp only [go_sem, fN, seval, eT, iR], by simp only [go_sem, fN, seval, eT, iR], by simp only [go_sem, fN, seval, eT, iR]; rfl, by simp only [go_sem, fN, seval, eT, iR], by simp only [go_sem, fN, seval, eT, iR], by simp only [go_sem, fN, seval, eT, iR], by simp only [go_sem, fN, seval, eT, iR]⟩ ?_
   rintro q ⟨env2, S2⟩ ⟨j, ts, hj, rfl, hcl, htl, g1, g2, u1, u2, g5, u23, g6, g26, g27, g28, g8, u8, g9, u9, u959, g36, g37, g38⟩
   simp only at g1 g2 u1 u2 g5 u23 g6 g26 g27 g28 g8 u8 g9 u9 u959 g36 g37 g38
   unfold Aq at u1
   by_cases hjl : (j : Int) < m.frm.length
   ·obtain ⟨x, hx⟩ := BB (show j < m.frm.length by omega)
    have qx := hfr x (AW hx)
    obtain ⟨o, ho, hod⟩ := Oc (best := p.1) (i := x.toNat) (by omega)
    have hcs := GE (s := x) hcl
    rw [← A2 hx, hod] at hcs
    cases o with
    | none =>
     have hcn : m.cand p.1 = none := by
      unfold Mv.cand
      rw [Gi (AW hx) hod]
     have hstep : A8 p m = p := by
      unfold A8 B0 Mv.gain
      rw [hcn]
      simp
     rw [hstep] at hsn
     repeat' with_reducible first | refine W ?_ | refine Z0 ?_ | ((first | refine Wo fun K hK => ?_ | refine Wp ?_ | refine Wq ?_ | refine Wr ?_); (try simp only [go_sem, fN, seval, eT, iR, g1, g2, u1, u2, g5, u23, g6, g26, g27, g28, g8, u8, g9, u9, u959, g36, g37, g38, hjl, hx, ho, D7, D6, hpl, hts, dT, dF, nL]); (repeat refine Ai ?_); (try (refine hK _ ?_; clear hK K)); try refine iC ?_)
     refine AK ⟨a.moves.length - (k + 1), by omega, k + 1, p, by omega, rfl, hsn.symm, ?_⟩
     simp only [go_sem, fN, seval, AS.drop, Ao, AC.clears, AC.clear, AC.highs, AC.high, Bool.not_false, Bool.true_and, Bool.and_self, AV.purge, AV.purges, AC.purge, AI.purge, List.contains_cons, List.contains_nil, Nat.reduceBEq, Bool.or_self, Bool.or_false, Bool.false_or, Bool.or_true, eT, iR, g1, g2, u1, u2, g5, u23, g6, g26, g27, g28, g8, u8, g9, u9, u959, Aq]
     simp
    | some t =>
     have htk : Eo t := hpo t (List.mem_of_getElem? ho)
     have b1 : j + 1 ≤ maxLen := by
      rw [BV]
      have := hok.2
      omega
     have b2 : (j + 1) * 40 ≤ 140737488355328 := by
      have := hok.2
      omega
     have b3 : j < j + 1 := Nat.lt_succ_self j
     have b4 := Nk htl [SV.str ⟨#[]⟩, SV.list []]
     have b5 := OB htl [SV.str ⟨#[]⟩, SV.list []]
     repeat' with_reducible first | refine W ?_ | refine Z0 ?_ | ((first | refine Wo fun K hK => ?_ | refine Wp ?_ | refine Wq ?_ | refine Wr ?_); (try simp only [go_sem, fN, seval, eT, iR, g1, g2, u1, u2, g5, u23, g6, g26, g27, g28, g8, u8, g9, u9, u959, g36, g37, g38, hjl, hx, ho, D7, D6, hpl, hts, htl, b1, b2, b3, b4, b5, dT, dF, nL]); (repeat refine Ai ?_); (try (refine hK _ ?_; clear hK K)); try refine iC ?_)
     refine AK ⟨m.frm.length - (j + 1), by omega, j + 1, ts ++ [t], by omega, rfl, hcs, by simp [htl], ?_⟩
     simp only [go_sem, fN, seval, eT, iR, g1, g2, u1, u2, g5, u23, g6, g26, g27, g28, g8, u8, g9, u9, u959, g36, g37, g38, Aq, htl]
     exact ⟨by simp [CM t], by simp⟩
   ·have hjm : j = m.frm.length := by omega
    rw [hjm, List.take_of_length_le (Nat.le_refl _)] at hcl
    rw [hjm] at htl
    have hjt : j = ts.length := by omega
    rw [hjt] at u9
    have hcd : m.cand p.1 = if (Tm.mk m.name ts).size ≤ 2000 then some (.mk m.name ts) else none := by
     unfold Mv.cand
     rw [hcl]
    have hsz : ∀ t ∈ ts, t.size ≤ 2000 := fun t ht => (hpo t (Dv hcl t ht)).2
    have htz : (Tm.mk m.name ts).size ≤ 1000000 := by
     have h1 := hok.2
     have h2 := JU hsz
     simp only [Tm.size]
     have : 2000 * ts.length ≤ 2000 * 4 := Nat.mul_le_mul_left _ (by omega)
     omega
    have hS : Ac Try.prog 32 [.agg [.st (.str m.name), .st (.list (ts.map BY))]] (AR (Tm.mk m.name ts).size) := Ep (Tm.mk m.name ts) htz
    have hcand := fun (h : (Tm.mk m.name ts).size ≤ 2000) => IH hpo hok (hcd.trans (if_pos h))
    have hLt : ∀ (b : Tm) (h : Eo (Tm.mk m.name ts)) (hb : Eo b), Ac Try.prog 33 [.agg [.st (.str m.name), .st (.list (ts.map BY))], aTm b] (BX (Ck (Tm.mk m.name ts) b)) := fun b h hb => MK _ b h hb
    have hn1 : (Tm.mk m.name ts).name = m.name := rfl
    have hn2 : (Tm.mk m.name ts).args = ts := rfl
    have hlen : (ts.map BY).length = ts.length := List.length_map _
    refine IWP.ghost (AZ.share (id := 959) u959) ?_
    refine IWP.ghost (AZ.ice 9 (id := 9) (e := 28) (cs := [.st (.str m.name), .row 959 ts.length]) (xs := GB (.mk m.name ts)) (by simp only [go_sem, fN, seval, eT, iR, u9]) (by simp only [go_sem, fN, seval, eT, iR, hlen, stCs, stC, hn1, hn2, GB]) (by simp only [go_sem, fN, seval, eT, iR, g9]) (by omega)) ?_
    refine IWP.ghost (AZ.toRef 9 (cs := GB (.mk m.name ts)) (by simp only [go_sem, fN, seval, eT, iR]) (by omega)) ?_
    generalize Tm.mk m.name ts = t at *
    by_cases hbig : 2000 < (t.size : Int)
    ·have hcn : m.cand p.1 = none := by rw [hcd, if_neg (by omega)]
     have hstep : A8 p m = p := by
      unfold A8 B0 Mv.gain
      rw [hcn]
      simp
     rw [hstep] at hsn
     repeat' (first | (with_reducible first | refine W ?_ | refine Z0 ?_ | ((first | refine Wo fun K hK => ?_ | refine Wp ?_ | refine Wq ?_ | refine Wr ?_); (try simp only [go_sem, fN, seval, eT, iR, g1, g2, u1, u2, g5, u23, g6, g26, g27, g28, g8, u8, g9, u9, u959, g36, g37, g38, hjl, hne, hn1, hn2, hbig, dT, dF, nL]); (repeat refine Ai ?_); (try (refine hK _ ?_; clear hK K)); try refine iC ?_)) | refine Cg _ (hS) ?_)
     refine AK ⟨a.moves.length - (k + 1), by omega, k + 1, p, by omega, rfl, hsn.symm, ?_⟩
     simp only [go_sem, fN, seval, AS.drop, Ao, AC.clears, AC.clear, AC.highs, AC.high, Bool.not_false, Bool.true_and, Bool.and_self, AV.purge, AV.purges, AC.purge, AI.purge, List.contains_cons, List.contains_nil, Nat.reduceBEq, Bool.or_self, Bool.or_false, Bool.false_or, Bool.or_true, eT, iR, g1, g2, u1, u2, g5, u23, g6, g26, g27, g28, g8, u8, g9, u9, u959, Aq]
     simp
    ·have htk := hcand (by omega)
     rw [if_pos (by omega)] at hcd
     obtain ⟨o, ho, hod⟩ := Oc (best := p.1) (i := m.to_.toNat) (by omega)
     cases o with
     | none =>
      have hgn : m.gain p.1 = some t := by
       unfold Mv.gain
       rw [hcd, hod]
      have hstep : A8 p m = (p.1.set m.to_.toNat (some t), true) := by
       unfold A8 B0
       rw [hgn]
       simp
      rw [hstep] at hsn
      repeat' (first | (with_reducible first | refine W ?_ | refine Z0 ?_ | ((first | refine Wo fun K hK => ?_ | refine Wp ?_ | refine Wq ?_ | refine Wr ?_); (try simp only [go_sem, fN, seval, eT, iR, g1, g2, u1, u2, g5, u23, g6, g26, g27, g28, g8, u8, g9, u9, u959, g36, g37, g38, hjl, hne, hn1, hn2, hbig, ho, D7, D6, hpl, hts, I_, dT, dF, nL]); (repeat refine Ai ?_); (try (refine hK _ ?_; clear hK K)); try refine iC ?_)) | refine Cg _ (hS) ?_)
      refine AK ⟨a.moves.length - (k + 1), by omega, k + 1, _, by omega, rfl, hsn.symm, ?_⟩
      simp only [go_sem, fN, seval, AS.drop, Ao, AC.clears, AC.clear, AC.highs, AC.high, Bool.not_false, Bool.true_and, Bool.and_self, AV.purge, AV.purges, AC.purge, AI.purge, List.contains_cons, List.contains_nil, Nat.reduceBEq, Bool.or_self, Bool.or_false, Bool.false_or, Bool.or_true, eT, iR, g1, g2, u1, u2, g5, u23, g6, g26, g27, g28, g8, u8, g9, u9, u959, Aq]
      simp
     | some b =>
      have hbk : Eo b := hpo b (List.mem_of_getElem? ho)
      have hL := hLt b htk hbk
      cases hlb : Ck t b with
      | true =>
       rw [hlb] at hL
       have hgn : m.gain p.1 = some t := by
        unfold Mv.gain
        rw [hcd, hod]
        simp [hlb]
       have hstep : A8 p m = (p.1.set m.to_.toNat (some t), true) := by
        unfold A8 B0
        rw [hgn]
        simp
       rw [hstep] at hsn
       repeat' (first | (with_reducible first | refine W ?_ | refine Z0 ?_ | ((first | refine Wo fun K hK => ?_ | refine Wp ?_ | refine Wq ?_ | refine Wr ?_); (try simp only [go_sem, fN, seval, eT, iR, g1, g2, u1, u2, g5, u23, g6, g26, g27, g28, g8, u8, g9, u9, u959, g36, g37, g38, hjl, hne, hn1, hn2, hbig, ho, D7, D6, hpl, hts, I_, dT, dF, nL]); (repeat refine Ai ?_); (try (refine hK _ ?_; clear hK K)); try refine iC ?_)) | refine Cg _ (hS) ?_ | refine Cg _ (hL) ?_)
       refine AK ⟨a.moves.length - (k + 1), by omega, k + 1, _, by omega, rfl, hsn.symm, ?_⟩
       simp only [go_sem, fN, seval, AS.drop, Ao, AC.clears, AC.clear, AC.highs, AC.high, Bool.not_false, Bool.true_and, Bool.and_self, AV.purge, AV.purges, AC.purge, AI.purge, List.contains_cons, List.contains_nil, Nat.reduceBEq, Bool.or_self, Bool.or_false, Bool.false_or, Bool.or_true, eT, iR, g1, g2, u1, u2, g5, u23, g6, g26, g27, g28, g8, u8, g9, u9, u959, Aq]
       simp
      | false =>
       rw [hlb] at hL
       have hgn : m.gain p.1 = none := by
        unfold Mv.gain
        rw [hcd, hod]
        simp [hlb]
       have hstep : A8 p m = p := by
        unfold A8 B0
        rw [hgn]
        simp
       rw [hstep] at hsn
       repeat' (first | (with_reducible first | refine W ?_ | refine Z0 ?_ | ((first | refine Wo fun K hK => ?_ | refine Wp ?_ | refine Wq ?_ | refine Wr ?_); (try simp only [go_sem, fN, seval, eT, iR, g1, g2, u1, u2, g5, u23, g6, g26, g27, g28, g8, u8, g9, u9, u959, g36, g37, g38, hjl, hne, hn1, hn2, hbig, ho, D7, D6, hpl, hts, dT, dF, nL]); (repeat refine Ai ?_); (try (refine hK _ ?_; clear hK K)); try refine iC ?_)) | refine Cg _ (hS) ?_ | refine Cg _ (hL) ?_)
       refine AK ⟨a.moves.length - (k + 1), by omega, k + 1, p, by omega, rfl, hsn.symm, ?_⟩
       simp only [go_sem, fN, seval, AS.drop, Ao, AC.clears, AC.clear, AC.highs, AC.high, Bool.not_false, Bool.true_and, Bool.and_self, AV.purge, AV.purges, AC.purge, AI.purge, List.contains_cons, List.contains_nil, Nat.reduceBEq, Bool.or_self, Bool.or_false, Bool.false_or, Bool.or_true, eT, iR, g1, g2, u1, u2, g5, u23, g6, g26, g27, g28, g8, u8, g9, u9, u959, Aq]
       simp
  ·rw [List.take_of_length_le (l := a.moves) (i := k) (by omega)] at hp
   have hpp : p = Fi a.moves best0 := hp
   have hpo : CZ p.1 := by rw [hp]; exact Cx hob hmv
   have hpl : p.1.length = a.states.toNat := by rw [hp, CR]; exact hbl
   obtain ⟨b, more⟩ := p
   simp only at t23 f6 hpo hpl
   repeat' with_reducible first | refine W ?_ | refine Z0 ?_ | ((first | refine Wo fun K hK => ?_ | refine Wp ?_ | refine Wq ?_ | refine Wr ?_); (try simp only [go_sem, fN, seval, eT, iR, f1, f2, t1, t2, f5, t23, f6, f26, f27, f28, t8, t9, t959, hlt, dT, dF, nL]); (repeat refine Ai ?_); (try (refine hK _ ?_; clear hK K)); try refine iC ?_)
   cases n with
   | zero =>
    have h0 : Fi a.moves best0 = (out, false) := hends
    rw [← hpp] at h0
    cases h0
    refine AK ⟨0, by simp, 0, false, out, by simp, by simp, hpo, hpl, ?_⟩
    simp only [go_sem, fN, seval, AS.drop, Ao, AC.clears, AC.clear, AC.highs, AC.high, Bool.not_false, Bool.true_and, Bool.and_self, AV.purge, AV.purges, AC.purge, AI.purge, List.contains_cons, List.contains_nil, Nat.reduceBEq, Bool.or_self, Bool.or_false, Bool.false_or, Bool.or_true, eT, iR, f1, f2, t1, t2, f5, t23, f6, f26, f27, f28, t8, t9, t959, Aq]
   | succ n =>
    obtain ⟨q1, q2⟩ := hends
    rw [← hpp] at q1 q2
    simp only at q1 q2
    subst q1
    refine AK ⟨n + 1, by simp, n, true, b, by simp, by simpa using q2, hpo, hpl, ?_⟩
    simp only [go_sem, fN, seval, AS.drop, Ao, AC.clears, AC.clear, AC.highs, AC.high, Bool.not_false, Bool.true_and, Bool.and_self, AV.purge, AV.purges, AC.purge, AI.purge, List.contains_cons, List.contains_nil, Nat.reduceBEq, Bool.or_self, Bool.or_false, Bool.false_or, Bool.or_true, eT, iR, f1, f2, t1, t2, f5, t23, f6, f26, f27, f28, t8, t9, t959, Aq]


set_option maxRecDepth 100000
def EF : IR :=
 (.seq (.ops [.i 8 (.alloc 25 [.st (.int .i64 0), .full [], .full []])]) (.seq (.ops [.m 16 2, .i 17 (.build [.st (.int .i64 0), .full [], .full []] [(0, 1, .t 16)]), .i 9 (.alloc 25 [.st (.int .i64 0), .full [], .full []]), .s 3 9 17]) (.seq (.seq (.ops [.i 10 (.mov (.n 0))]) (.block 0 (.loop (.seq (.seq (.ops [.m 18 10, .m 19 3, .i 20 (.bin .lss (.t 18) (.t 19))]) (.cond (.t 20) .skip (.exit 0))) (.seq (.block 1 (.seq (.ops [.m 23 0, .m 24 1, .m 25 10, .i 26 (.bin .mul (.n 4) (.t 25)), .i 27 (.bin .add (.t 24) (.t 26)), .i 28 (.call 37 [.t 23, .t 27]), .m 11 28]) (.seq (.ops [.i 29 (.buildFlat [.n 0, .n 0, .n 1, .n 2]), .m 30 11, .i 31 (.call 17 [.t 30, .n 4]), .i 32 (.indexAddr 1 (.t 29) (.t 31)), .l 33 32, .m 12 33]) (.seq (.ops [.i 34 (.buildFlat [.c (.one (.st (.str (ByteArray.mk (#[97]))))), .c (.one (.st (.str (ByteArray.mk (#[98]))))), .c (.one (.st (.str (ByteArray.mk (#[104]))))), .c (.one (.st (.str (ByteArray.mk (#[102])))))]), .m 35 11, .i 36 (.call 17 [.t 35, .n 4]), .i 37 (.indexAddr 1 (.t 34) (.t 36)), .l 38 37, .m 39 0, .m 40 1, .m 41 10, .i 42 (.bin .mul (.n 4) (.t 41)), .i 43 (.bin .add (.t 40) (.t 42)), .i 44 (.bin .add (.t 43) (.n 1)), .i 45 (.call 37 [.t 39, .t 44]), .m 46 2, .i 47 (.call 17 [.t 45, .t 46]), .i 48 (.build [.st (.str (ByteArray.mk (#[]))), .full [], .st (.int .i64 0)] [(0, 1, .t 38), (2, 1, .t 47)]), .i 13 (.alloc 50 [.st (.str (ByteArray.mk (#[]))), .full [], .st (.int .i64 0)]), .s 3 13 48]) (.seq (.seq (.ops [.i 14 (.mov (.n 0))]) (.block 2 (.loop (.seq (.seq (.ops [.m 49 14, .m 50 12, .i 51 (.bin .lss (.t 49) (.t 50))]) (.cond (.t 51) .skip (.exit 2))) (.seq (.block 3 (.ops [.f 54 1 13, .l 55 54, .m 56 0, .m 57 1, .m 58 10, .i 59 (.bin .mul (.n 4) (.t 58)), .i 60 (.bin .add (.t 57) (.t 59)), .i 61 (.bin .add (.t 60) (.n 2)), .m 62 14, .i 63 (.bin .add (.t 61) (.t 62)), .i 64 (.call 37 [.t 56, .t 63]), .m 65 2, .i 66 (.call 17 [.t 64, .t 65]), .i 67 (.buildFlat [.t 66]), .i 68 (.append false 3 1 8 (.t 55) (.t 67)), .f 69 1 13, .s 1 69 68])) (.ops [.m 52 14, .i 53 (.bin .add (.t 52) (.n 1)), .m 14 53])))))) (.ops [.f 70 1 9, .l 71 70, .L 72 3 13, .i 73 (.buildSlice false 50 3 [.t 72]), .i 74 (.append false 50 3 48 (.t 71) (.t 73)), .f 75 1 9, .s 1 75 74])))))) (.ops [.m 21 10, .i 22 (.bin .add (.t 21) (.n 1)), .m 10 22])))))) (.seq (.seq (.ops [.i 15 (.mov (.n 0))]) (.block 4 (.loop (.seq (.seq (.ops [.m 76 15, .m 77 2, .i 78 (.bin .lss (.t 76) (.t 77))]) (.cond (.t 78) .skip (.exit 4))) (.seq (.block 5 (.seq (.ops [.m 81 0, .m 82 1, .m 83 15, .i 84 (.bin .add (.t 82) (.t 83)), .i 85 (.bin .add (.t 84) (.n 3)), .i 86 (.call 37 [.t 81, .t 85]), .i 87 (.call 17 [.t 86, .n 3]), .i 88 (.bin .eql (.t 87) (.n 0))]) (.cond (.t 88) (.ops [.f 89 2 9, .l 90 89, .m 91 15, .i 92 (.buildFlat [.t 91]), .i 93 (.append false 3 1 8 (.t 90) (.t 92)), .f 94 2 9, .s 1 94 93]) .skip))) (.ops [.m 79 15, .i 80 (.bin .add (.t 79) (.n 1)), .m 15 80])))))) (.seq (.ops [.L 95 3 9, .s 3 8 95]) .ret)))))
theorem Gz : OkF Try.prog 16 96 [] EF [.cell 8 true 3] := .of Try.func16 rfl rfl (by kernel_rfl) rfl
def An : IR :=
 (.seq (.ops [.i 6 (.mov (.c (.one (.st (.bool false)))))]) (.seq (.seq (.ops [.m 17 0, .i 18 (.len false (.t 17)), .i 19 (.bin .gtr (.t 18) (.n 256))]) (.cond (.t 19) (.seq (.ops [.i 6 (.mov (.c (.one (.st (.bool true)))))]) .ret) .skip)) (.seq (.ops [.m 20 0, .m 21 1, .i 22 (.call 17 [.t 21, .n 4]), .i 23 (.bin .add (.n 1) (.t 22)), .m 24 2, .i 25 (.call 17 [.t 24, .n 12]), .i 26 (.call 16 [.t 20, .n 0, .t 23, .t 25]), .i 7 (.alloc 25 [.st (.int .i64 0), .full [], .full []]), .s 3 7 26]) (.seq (.ops [.m 28 0, .i 29 (.call 18 [.t 28, .n 80, .n 14]), .m 27 29, .i 30 (.extract 0 (.t 27)), .i 31 (.extract 1 (.t 27)), .i 8 (.alloc 28 [.st (.str (ByteArray.mk (#[]))), .full []]), .s 2 8 30, .m 9 31]) (.seq (.ops [.L 33 3 7, .L 34 2 8, .i 35 (.call 12 [.t 33, .t 34]), .m 32 35, .i 36 (.extract 0 (.t 32)), .i 37 (.extract 1 (.t 32)), .m 10 36, .m 11 37]) (.seq (.ops [.L 39 3 7, .i 40 (.call 13 [.t 39]), .m 38 40, .i 41 (.extract 0 (.t 38)), .i 42 (.extract 1 (.t 38)), .i 12 (.alloc 28 [.st (.str (ByteArray.mk (#[]))), .full []]), .s 2 12 41, .m 13 42]) (.seq (.ops [.i 44 (.build [.st (.str (ByteArray.mk (#[]))), .full [], .st (.int .i64 0)] [(0, 1, .c (.one (.st (.str (ByteArray.mk (#[97]))))))]), .i 45 (.buildSlice false 50 3 [.t 44]), .i 46 (.buildFlat [.n 0]), .i 47 (.build [.st (.int .i64 0), .full [], .full []] [(0, 1, .n 1), (1, 1, .t 45), (2, 1, .t 46)]), .i 48 (.call 19 [.c (.one (.st (.str (ByteArray.mk (#[97])))))]), .i 49 (.call 12 [.t 47, .t 48]), .m 43 49, .i 50 (.extract 0 (.t 43)), .i 51 (.extract 1 (.t 43)), .m 14 50, .m 15 51]) (.seq (.seq (.ops [.m 52 11, .i 53 (.bin .neq (.t 52) (.n 0)), .m 54 53, .mk (some 55) (some (54, false)) (.mov (.t 15)) .no, .mk (some 56) (some (54, false)) (.bin .neq (.t 55) (.n 0)) .no, .i 57 (.pick (.t 54) (.c (.one (.st (.bool true)))) (.t 56)), .m 58 57, .mk (some 59) (some (58, false)) (.mov (.t 14)) .no, .mk (some 60) (some (58, false)) (.un .not (.t 59)) .no, .i 61 (.pick (.t 58) (.c (.one (.st (.bool true)))) (.t 60))]) (.cond (.t 61) (.seq (.ops [.i 6 (.mov (.c (.one (.st (.bool false)))))]) .ret) .skip)) (.seq (.seq (.ops [.m 62 13, .i 63 (.bin .eql (.t 62) (.n 7))]) (.cond (.t 63) (.seq (.ops [.m 64 10, .i 65 (.un .not (.t 64)), .m 6 65]) .ret) .skip)) (.seq (.ops [.L 67 3 7, .L 68 2 12, .i 69 (.call 12 [.t 67, .t 68]), .m 66 69, .i 70 (.extract 0 (.t 66)), .i 71 (.extract 1 (.t 66)), .m 16 70, .m 11 71]) (.seq (.ops [.m 72 13, .i 73 (.bin .eql (.t 72) (.n 0)), .m 74 73, .mk (some 75) (some (74, true)) (.mov (.t 11)) .no, .mk (some 76) (some (74, true)) (.bin .eql (.t 75) (.n 0)) .no, .i 77 (.pick (.t 74) (.t 76) (.c (.one (.st (.bool false))))), .m 78 77, .mk (some 79) (some (78, true)) (.mov (.t 16)) .no, .i 80 (.pick (.t 78) (.t 79) (.c (.one (.st (.bool false))))), .m 81 80, .mk (some 82) (some (81, true)) (.mov (.t 10)) .no, .mk (some 83) (some (81, true)) (.un .not (.t 82)) .no, .mk (some 84) (some (81, true)) (.mov (.t 83)) .no, .mk (some 85) (some (84, false)) (.load true 2 (.t 12)) .no, .mk (some 86) (some (84, false)) (.call 20 [.t 85, .n 2000]) .no, .mk (some 87) (some (84, false)) (.load true 2 (.t 8)) .no, .mk (some 88) (some (84, false)) (.call 20 [.t 87, .n 2000]) .no, .mk (some 89) (some (84, false)) (.bin .leq (.t 86) (.t 88)) .no, .mk (some 90) (some (81, true)) (.pick (.t 84) (.c (.one (.st (.bool true)))) (.t 89)) .no, .i 91 (.pick (.t 81) (.t 90) (.c (.one (.st (.bool false))))), .m 6 91]) .ret)))))))))))
theorem A1 : OkF Try.prog 4 92 [] An [.t 6] := .of Try.func4 rfl rfl (by kernel_rfl) rfl

def HU : IR :=
 (.seq (.ops [.i 4 (.mov (.n 0))]) (.seq (.seq (.ops [.m 5 0, .i 6 (.bin .lss (.t 5) (.n 0))]) (.cond (.t 6) (.ops [.m 7 0, .i 8 (.bin .add (.t 7) (.n 1)), .i 9 (.un .neg (.t 8)), .m 0 9]) .skip)) (.seq (.ops [.m 10 0, .m 11 1, .i 12 (.bin .rem (.t 10) (.t 11)), .m 4 12]) .ret)))
theorem LJ : OkF Try.prog 17 13 [] HU [.t 4] := .of Try.func17 rfl rfl (by kernel_rfl) rfl
def Jg : IR :=
 (.seq (.ops [.i 4 (.mov (.n 0))]) (.seq (.seq (.ops [.m 5 0, .i 6 (.len false (.t 5)), .i 7 (.bin .eql (.t 6) (.n 0))]) (.cond (.t 7) (.seq (.ops [.m 8 1, .i 9 (.bin .mul (.t 8) (.n 31)), .m 4 9]) .ret) .skip)) (.seq (.ops [.m 10 0, .m 11 1, .m 12 0, .i 13 (.len false (.t 12)), .i 14 (.bin .rem (.t 11) (.t 13)), .i 15 (.indexAddr 1 (.t 10) (.t 14)), .l 16 15, .i 17 (.call 17 [.t 16, .n 1000003]), .m 18 1, .m 19 0, .i 20 (.len false (.t 19)), .i 21 (.bin .quo (.t 18) (.t 20)), .i 22 (.bin .mul (.t 21) (.n 7919)), .i 23 (.bin .add (.t 17) (.t 22)), .m 4 23]) .ret)))
theorem MZ : OkF Try.prog 37 24 [] Jg [.t 4] := .of Try.func37 rfl rfl (by kernel_rfl) rfl
def Hk : IR :=
 (.seq (.ops [.i 2 (.alloc 28 [.st (.str (ByteArray.mk (#[]))), .full []])]) (.seq (.ops [.m 3 0, .i 4 (.build [.st (.str (ByteArray.mk (#[]))), .full []] [(0, 1, .t 3)]), .s 2 2 4]) .ret))
theorem LB : OkF Try.prog 19 5 [] Hk [.cell 2 true 2] := .of Try.func19 rfl rfl (by kernel_rfl) rfl

def A5 (c n : Int) : Int := (if c < 0 then -(c + 1) else c) % n
theorem Ax (c n : Int) (hn : 1 ≤ n) : 0 ≤ A5 c n ∧ A5 c n < n := ⟨Int.emod_nonneg _ (by omega), Int.emod_lt_of_pos _ (by omega)⟩
theorem EI {x n : Int} (hx : 0 ≤ x) (hn : 1 ≤ n) : x.tmod n = x % n ∧ 0 ≤ x % n ∧ x % n < n ∧ x % n ≤ x := by
 rw [Int.tmod_eq_emod_of_nonneg hx]
 refine ⟨rfl, Int.emod_nonneg _ (by omega), Int.emod_lt_of_pos _ (by omega), ?_⟩
 by_cases h : x < n
 ·rw [Int.emod_eq_of_lt hx h]; exact Int.le_refl _
 ·have := Int.emod_lt_of_pos x (show 0 < n by omega); omega
theorem EJ {x n : Int} (hx : 0 ≤ x) (hn : 1 ≤ n) : x.tdiv n = x / n ∧ 0 ≤ x / n ∧ x / n ≤ x := by
 rw [Int.tdiv_eq_ediv_of_nonneg hx]
 exact ⟨rfl, Int.ediv_nonneg hx (by omega), Int.ediv_le_self _ hx⟩
theorem DA (c n : Int) (hc : inR .i64 c) (hn : 1 ≤ n) : Ac Try.prog 17 [AR c, AR n] (AR (A5 c n)) := by
 rw [CL] at hc
 refine LJ.ac fun C hC => ?_
 unfold HU
 repeat' with_reducible first | refine W ?_ | refine Z0 ?_ | ((first | refine Wo fun K hK => ?_ | refine Wq ?_ | refine Wr ?_); (try simp only [go_sem, fN, seval, eT, iR]); (repeat refine Ai ?_); (try (refine hK _ ?_; clear hK K)))
 with_reducible refine Wp ?_
 simp only [go_sem, fN, seval, true_implies, false_implies, implies_true, dT, dF, nL]
 (try with_reducible refine iC ?_)
 refine ⟨fun h0 => ?_, fun h0 => ?_⟩
 ·have h1 := EI (x := 0 - (c + 1)) (n := n) (by omega) hn
  repeat' with_reducible first | refine W ?_ | refine Z0 ?_ | ((first | refine Wo fun K hK => ?_ | refine Wq ?_ | refine Wr ?_); (try simp only [go_sem, fN, seval, eT, iR, h1.1]); (repeat refine Ai ?_); (try (refine hK _ ?_; clear hK K)))
  simp only [go_sem, fN, seval, Af, AS.result, AH, AM, AY]
  unfold A5
  rw [if_pos h0]
  congr 5
  omega
 ·have h1 := EI (x := c) (n := n) (by omega) hn
  repeat' with_reducible first | refine W ?_ | refine Z0 ?_ | ((first | refine Wo fun K hK => ?_ | refine Wq ?_ | refine Wr ?_); (try simp only [go_sem, fN, seval, eT, iR, h1.1]); (repeat refine Ai ?_); (try (refine hK _ ?_; clear hK K)))
  simp only [go_sem, fN, seval, Af, AS.result, AH, AM, AY]
  unfold A5
  rw [if_neg h0]
def BQ (l : List Int) (i : Nat) : Int := if l.length = 0 then i * 31 else A5 (l.getD (i % l.length) 0) 1000003 + ((i / l.length : Nat) : Int) * 7919
theorem Cb (l : List Int) (i : Nat) : 0 ≤ BQ l i ∧ BQ l i ≤ 1000003 + i * 7919 := by
 unfold BQ
 split
 ·omega
 ·have := Ax (l.getD (i % l.length) 0) 1000003 (by omega)
  have h2 : i / l.length ≤ i := Nat.div_le_self _ _
  generalize i / l.length = q at *
  omega
theorem JO (l : List Int) (i : Nat) (hi : i ≤ 1000000) (hl : ∀ n ∈ l, inR .i64 n) (hm : l.length ≤ maxLen) : Ac Try.prog 37 [Cw l, AR i] (AR (BQ l i)) := by
 rw [BV] at hm
 refine MZ.ac fun C hC => ?_
 unfold Jg
 repeat' with_reducible first | refine W ?_ | refine Z0 ?_ | ((first | refine Wo fun K hK => ?_ | refine Wq ?_ | refine Wr ?_); (try simp only [go_sem, fN, seval, eT, iR]); (repeat refine Ai ?_); (try (refine hK _ ?_; clear hK K)))
 with_reducible refine Wp ?_
 simp only [go_sem, fN, seval, true_implies, false_implies, implies_true, dT, dF, nL]
 (try with_reducible refine iC ?_)
 refine ⟨fun h0 => ?_, fun h0 => ?_⟩
 ·repeat' with_reducible first | refine W ?_ | refine Z0 ?_ | ((first | refine Wo fun K hK => ?_ | refine Wq ?_ | refine Wr ?_); (try simp only [go_sem, fN, seval, eT, iR]); (repeat refine Ai ?_); (try (refine hK _ ?_; clear hK K)))
  simp only [go_sem, fN, seval, Af, AS.result, AH, AM, AY]
  unfold BQ
  rw [if_pos (by omega)]
 ·have h1 := EI (x := (i : Int)) (n := (l.length : Int)) (by omega) (by omega)
  have h2 := EJ (x := (i : Int)) (n := (l.length : Int)) (by omega) (by omega)
  have hlt : i % l.length < l.length := Nat.mod_lt _ (by omega)
  obtain ⟨a, ha⟩ := BB hlt
  have e1 : ((i : Int) % (l.length : Int)) = ((i % l.length : Nat) : Int) := by omega
  have e2 : ((i : Int) / (l.length : Int)) = ((i / l.length : Nat) : Int) := by omega
  have h3 : i / l.length ≤ i := Nat.div_le_self _ _
  repeat' with_reducible first | refine W ?_ | refine Z0 ?_ | ((first | refine Wo fun K hK => ?_ | refine Wq ?_ | refine Wr ?_); (try simp only [go_sem, fN, seval, eT, iR, h1.1, h2.1, e1, e2, ha]); (repeat refine Ai ?_); (try (refine hK _ ?_; clear hK K)))
  refine ⟨_, DA a 1000003 (hl a (AW ha)) (by omega), ?_⟩
  have hp := Ax a 1000003 (by omega)
  repeat' with_reducible first | refine W ?_ | refine Z0 ?_ | ((first | refine Wo fun K hK => ?_ | refine Wq ?_ | refine Wr ?_); (try simp only [go_sem, fN, seval, eT, iR, h1.1, h2.1, e1, e2]); (repeat refine Ai ?_); (try (refine hK _ ?_; clear hK K)))
  simp only [go_sem, fN, seval, Af, AS.result, AH, AM, AY]
  unfold BQ
  rw [if_neg (by omega), List.getD_eq_getElem?_getD, ha]
  rfl
theorem Gx (s : ByteArray) : Ac Try.prog 19 [Ed s] (aTm (.mk s [])) := by
 refine LB.ac fun C hC => ?_
 unfold Hk
 repeat' with_reducible first | refine W ?_ | refine Z0 ?_ | ((first | refine Wo fun K hK => ?_ | refine Wq ?_ | refine Wr ?_); (try simp only [go_sem, fN, seval, eT, iR]); (repeat refine Ai ?_); (try (refine hK _ ?_; clear hK K)))
 simp only [go_sem, fN, seval, Af, AS.result, AH, AM, AY]
 rfl
theorem Ir {n : ByteArray} {xs : List Tm} (h1 : As n = true) (h2 : A3 n = false) (hx : ∀ x ∈ xs, x.chk = 0) : (Tm.mk n xs).chk = 0 := by
 have h0 : CJ (Tm.mk n xs) = 0 := by
  unfold CJ
  rw [Tm.name_mk, if_pos h1, if_neg (by rw [h2]; simp)]
 rw [Tm.chk_eq, if_pos h0, Tm.args_mk]
 induction xs with
 | nil => rfl
 | cons x xs ih =>
  simp only [Tm.chkL]
  rw [if_pos (hx x (by simp))]
  refine ih (fun y hy => hx y (by simp [hy])) ?_
  unfold CJ
  rw [Tm.name_mk, if_pos h1, if_neg (by rw [h2]; simp)]

def DR (c : Int) : Nat := [0, 0, 1, 2].getD (A5 c 4).toNat 0
def Fb (c : Int) : ByteArray := [⟨#[97]⟩, ⟨#[98]⟩, ⟨#[104]⟩, ⟨#[102]⟩].getD (A5 c 4).toNat ⟨#[97]⟩
def H0 (l : List Int) (b : Nat) (n : Int) (k : Nat) : List Int := (List.range k).map fun j => A5 (BQ l (b + 2 + j)) n
def mvF (l : List Int) (at_ : Nat) (n : Int) (i : Nat) : Mv := ⟨Fb (BQ l (at_ + 4 * i)), H0 l (at_ + 4 * i) n (DR (BQ l (at_ + 4 * i))), A5 (BQ l (at_ + 4 * i + 1)) n⟩
def GV (l : List Int) (at_ : Nat) (n : Int) (k : Nat) : List Mv := (List.range k).map (mvF l at_ n)
def B1 (l : List Int) (at_ : Nat) : Nat → List Int
 | 0 => []
 | s + 1 => if A5 (BQ l (at_ + s + 3)) 3 = 0 then B1 l at_ s ++ [(s : Int)] else B1 l at_ s
def auF (l : List Int) (at_ n mv : Nat) : Au := ⟨n, GV l at_ n mv, B1 l at_ n⟩
theorem Ig (c : Int) : DR c ≤ 2 := by
 have := Ax c 4 (by omega)
 unfold DR
 have h : (A5 c 4).toNat = 0 ∨ (A5 c 4).toNat = 1 ∨ (A5 c 4).toNat = 2 ∨ (A5 c 4).toNat = 3 := by omega
 rcases h with h | h | h | h <;> rw [h] <;> decide
theorem Mq (c : Int) : As (Fb c) = true ∧ A3 (Fb c) = false := by
 have := Ax c 4 (by omega)
 unfold Fb
 have h : (A5 c 4).toNat = 0 ∨ (A5 c 4).toNat = 1 ∨ (A5 c 4).toNat = 2 ∨ (A5 c 4).toNat = 3 := by omega
 rcases h with h | h | h | h <;> rw [h] <;> decide
theorem I4 (l : List Int) (b : Nat) (n : Int) (k : Nat) : (H0 l b n k).length = k := by simp [H0]
theorem Lo (l : List Int) (b : Nat) (n : Int) (k : Nat) : H0 l b n (k + 1) = H0 l b n k ++ [A5 (BQ l (b + 2 + k)) n] := by simp [H0, List.range_succ]
theorem Ge (l : List Int) (at_ : Nat) (n : Int) (k : Nat) : (GV l at_ n k).length = k := by simp [GV]
theorem LP (l : List Int) (at_ : Nat) (n : Int) (k : Nat) : GV l at_ n (k + 1) = GV l at_ n k ++ [mvF l at_ n k] := by simp [GV, List.range_succ]
theorem FI (l : List Int) (at_ : Nat) : ∀ s, (B1 l at_ s).length ≤ s
 | 0 => Nat.le_refl _
 | s + 1 => by
  have := FI l at_ s
  rw [B1]
  split
  ·rw [List.length_append]
   simp
   omega
  ·omega
theorem E2 (l : List Int) (at_ : Nat) : ∀ s, ∀ x ∈ B1 l at_ s, 0 ≤ x ∧ x < (s : Int)
 | 0 => by simp [B1]
 | s + 1 => by
  intro x hx
  rw [B1] at hx
  split at hx
  ·rcases List.mem_append.1 hx with hx | hx
   ·have := E2 l at_ s x hx
    omega
   ·simp at hx
    omega
  ·have := E2 l at_ s x hx
   omega
theorem Kn (l : List Int) (at_ n : Nat) (h : 1 ≤ n) (i : Nat) : (mvF l at_ n i).err n = 0 ∧ (mvF l at_ n i).frm.length ≤ 2 := by
 have hk := Ig (BQ l (at_ + 4 * i))
 have hl : (mvF l at_ n i).frm.length ≤ 2 := by
  show (H0 _ _ _ _).length ≤ 2
  rw [I4]
  exact hk
 refine ⟨Mv.err_ok.2 ⟨Mq _, by omega, List.all_eq_true.2 fun x hx => ?_, ?_⟩, hl⟩
 ·simp only [mvF, H0, List.mem_map] at hx
  obtain ⟨j, _, rfl⟩ := hx
  exact CC.2 (Ax _ _ (by omega))
 ·exact CC.2 (Ax _ _ (by omega))
theorem Nm (l : List Int) (at_ n mv : Nat) (h : 1 ≤ n) (h8 : n ≤ 8) (h40 : mv ≤ 40) : (auF l at_ n mv).may 8 40 = 0 := by
 refine Au.may_ok.2 ⟨⟨by simp [auF], by simp [auF]; omega, by simp [auF, Ge]; omega⟩, fun m hm => ?_, ?_⟩
 ·simp only [auF, GV, List.mem_map] at hm
  obtain ⟨i, _, rfl⟩ := hm
  exact (Kn l at_ n h i).1
 ·exact List.all_eq_true.2 fun x hx => CC.2 (E2 l at_ n x hx)
theorem No (l : List Int) (at_ n mv : Nat) (h : 1 ≤ n) : ∀ m ∈ (auF l at_ n mv).moves, m.frm.length ≤ 2 := fun m hm => by
 simp only [auF, GV, List.mem_map] at hm
 obtain ⟨i, _, rfl⟩ := hm
 exact (Kn l at_ n h i).2
theorem J2 (l : List Int) (hl : ∀ n ∈ l, inR .i64 n) (hm : l.length ≤ maxLen) (at_ n mv : Nat) (ha : at_ ≤ 1000) (hn : 1 ≤ n) (hn8 : n ≤ 8) (hmv : mv ≤ 40) :
  Ac Try.prog 16 [Cw l, AR at_, AR n, AR mv] (aAu (auF l at_ n mv)) := by
 have e300 : ([] : List Mv).length = 0 := rfl
 refine Gz.ac fun C hC => ?_
 unfold EF
 repeat' with_reducible first | refine W ?_ | refine Z0 ?_ | ((first | refine Wo fun K hK => ?_ | refine Wp ?_ | refine Wq ?_ | refine Wr ?_); (try simp only [go_sem, fN, seval, eT, iR, dT, dF, nL]); (repeat refine Ai ?_); (try (refine hK _ ?_; clear hK K)); try refine iC ?_)
 refine IWP.ghost (AZ.ownC (C := C) 9 1 300 50 3 (xs := ([] : List Mv).map BK) (ty := 25) (cs := [.st (.int .i64 n), .full [], .full []]) (by simp only [go_sem, fN, seval, eT, iR]) rfl (by simp only [go_sem, fN, seval, eT, iR]) J6) ?_
 refine IWP.ghost (AZ.ownC (C := C) 9 2 301 3 1 (xs := ([] : List Int).map CO) (ty := 25) (cs := [.st (.int .i64 n), .row 300 0, .full []]) (by simp only [go_sem, fN, seval, eT, iR]; rfl) rfl (by simp only [go_sem, fN, seval, eT, iR]) HL) ?_
 refine IWP.loopD [13, 959] (fun q s => ∃ i, i ≤ mv ∧ q = mv - i ∧ s.env 0 = Cw l ∧ s.env 1 = AR at_ ∧ s.env 2 = AR n ∧ s.env 3 = AR mv ∧ s.env 8 = .one (.ptr 8 1 0 0) ∧ s.S 8 = some (.box 25 [.st (.int .i64 0), .full [], .full []]) ∧ s.env 9 = .one (.ptr 9 1 0 0) ∧ s.S 9 = some (.box 25 [.st (.int .i64 n), .row 300 i, .row 301 0]) ∧ s.S 300 = some (.arow 50 3 ((GV l at_ n i).map BK)) ∧ s.S 301 = some (.arow 3 1 []) ∧ s.env 10 = AR i ∧ s.S 13 = none ∧ s.S 959 = none) mv
  ⟨0, Nat.zero_le _, rfl, by simp only [go_sem, fN, seval, eT, iR], by simp only [go_sem, fN, seval, eT, iR], by simp only [go_sem, fN, seval, eT, iR], by simp only [go_sem, fN, seval, eT, iR], by simp only [go_sem, fN, seval, eT, iR], by simp only [go_sem, fN, seval, eT, iR], by simp only [go_sem, fN, seval, eT, iR], by simp only [go_sem, fN, seval, eT, iR]; rfl, by simp only [go_sem, fN, seval, eT, iR]; rfl, by simp only [go_sem, fN, seval, eT, iR], by simp only [go_sem, fN, seval, eT, iR], by simp only [go_sem, fN, seval, eT, iR], by simp only [go_sem, fN, seval, eT, iR]⟩ ?_
 rintro q ⟨env, St⟩ ⟨i, hi, rfl, e0, e1, e2, e3, e8, s8, e9, s9, s300, s301, e10, s13, s959⟩
 simp only at e0 e1 e2 e3 e8 s8 e9 s9 s300 s301 e10 s13 s959
 by_cases hlt : (i : Int) < mv
 ·have w0 := JO l (at_ + 4 * i) (by omega) hl hm
  have w1 := JO l (at_ + 4 * i + 1) (by omega) hl hm
  rw [show (((at_ + 4 * i : Nat) : Int)) = (at_ : Int) + 4 * (i : Int) by omega] at w0
  rw [show (((at_ + 4 * i + 1 : Nat) : Int)) = (at_ : Int) + 4 * (i : Int) + 1 by omega] at w1
  have r0 := Cb l (at_ + 4 * i)
  have r1 := Cb l (at_ + 4 * i + 1)
  have p0 := DA (BQ l (at_ + 4 * i)) 4 (by rw [CL]; omega) (by omega)
  have p1 := DA (BQ l (at_ + 4 * i + 1)) n (by rw [CL]; omega) (by omega)
  have hk2 := Ig (BQ l (at_ + 4 * i))
  have hpk := Ax (BQ l (at_ + 4 * i)) 4 (by omega)
  have hkn : [([.int .i64 0] : List SV), [.int .i64 0], [.int .i64 1], [.int .i64 2]][(A5 (BQ l (at_ + 4 * i)) 4).toNat]? = some [.int .i64 (DR (BQ l (at_ + 4 * i)) : Int)] ∧ [([.str ⟨#[97]⟩] : List SV), [.str ⟨#[98]⟩], [.str ⟨#[104]⟩], [.str ⟨#[102]⟩]][(A5 (BQ l (at_ + 4 * i)) 4).toNat]? = some [.str (Fb (BQ l (at_ + 4 * i)))] := by
   unfold DR Fb
   generalize A5 (BQ l (at_ + 4 * i)) 4 = y at hpk
   have h : y.toNat = 0 ∨ y.toNat = 1 ∨ y.toNat = 2 ∨ y.toNat = 3 := by omega
   rcases h with h | h | h | h <;> rw [h] <;> exact ⟨rfl, rfl⟩
  obtain ⟨hkn, hkb⟩ := hkn
  repeat' (first | (with_reducible first | refine W ?_ | refine Z0 ?_ | ((first | refine Wo fun K hK => ?_ | refine Wp ?_ | refine Wq ?_ | refine Wr ?_); (try simp only [go_sem, fN, seval, eT, iR, e0, e1, e2, e3, e8, s8, e9, s9, s300, s301, e10, s13, s959, hlt, hkn, hkb, dT, dF, nL]); (repeat refine Ai ?_); (try (refine hK _ ?_; clear hK K)); try refine iC ?_)) | refine Cg _ (w0) ?_ | refine Cg _ (p0) ?_ | refine Cg _ (w1) ?_ | refine Cg _ (p1) ?_)
  refine IWP.ghost (AZ.ownC (C := C) 13 1 959 3 1 (xs := ([] : List Int).map CO) (ty := 50) (cs := [.st (.str (Fb (BQ l (at_ + 4 * i)))), .full [], .st (.int .i64 (A5 (BQ l (at_ + 4 * i + 1)) n))]) (by simp only [go_sem, fN, seval, eT, iR]) rfl (by simp only [go_sem, fN, seval, eT, iR, s959]) HL) ?_
  refine IWP.loop (fun q s => ∃ j, j ≤ DR (BQ l (at_ + 4 * i)) ∧ q = DR (BQ l (at_ + 4 * i)) - j ∧ s.env 0 = Cw l ∧ s.env 1 = AR at_ ∧ s.env 2 = AR n ∧ s.env 3 = AR mv ∧ s.env 8 = .one (.ptr 8 1 0 0) ∧ s.S 8 = some (.box 25 [.st (.int .i64 0), .full [], .full []]) ∧ s.env 9 = .one (.ptr 9 1 0 0) ∧ s.S 9 = some (.box 25 [.st (.int .i64 n), .row 300 i, .row 301 0]) ∧ s.S 300 = some (.arow 50 3 ((GV l at_ n i).map BK)) ∧ s.S 301 = some (.arow 3 1 []) ∧ s.env 10 = AR i ∧ s.env 12 = AR (DR (BQ l (at_ + 4 * i))) ∧ s.env 13 = .one (.ptr 13 1 0 0) ∧ s.S 13 = some (.box 50 [.st (.str (Fb (BQ l (at_ + 4 * i)))), .row 959 j, .st (.int .i64 (A5 (BQ l (at_ + 4 * i + 1)) n))]) ∧ s.S 959 = some (.arow 3 1 ((H0 l (at_ + 4 * i) n j).map CO)) ∧ s.env 14 = AR j) (DR (BQ l (at_ + 4 * i)))
   ⟨0, Nat.zero_le _, rfl, by simp only [go_sem, fN, seval, eT, iR, e0], by simp only [go_sem, fN, seval, eT, iR, e1], by simp only [go_sem, fN, seval, eT, iR, e2], by simp only [go_sem, fN, seval, eT, iR, e3], by simp only [go_sem, fN, seval, eT, iR, e8], by simp only [go_sem, fN, seval, eT, iR, s8], by simp only [go_sem, fN, seval, eT, iR, e9], by simp only [go_sem, fN, seval, eT, iR, s9], by simp only [go_sem, fN, seval, eT, iR, s300], by simp only [go_sem, fN, seval, eT, iR, s301], by simp only [go_sem, fN, seval, eT, iR, e10], by simp only [go_sem, fN, seval, eT, iR], by simp only [go_sem, fN, seval, eT, iR], by simp only [go_sem, fN, seval, eT, iR]; rfl, by simp only [go_sem, fN, seval, eT, iR]; rfl, by simp only [go_sem, fN, seval, eT, iR]⟩ ?_
  rintro q ⟨env2, S2⟩ ⟨j, hj, rfl, f0, f1, f2, f3, f8, t8, f9, t9, t300, t301, f10, f12, f13, t13, t959, f14⟩
  simp only at f0 f1 f2 f3 f8 t8 f9 t9 t300 t301 f10 f12 f13 t13 t959 f14
  have hfl := I4 l (at_ + 4 * i) n j
  have hml := Ge l at_ n i
  by_cases hjl : (j : Int) < DR (BQ l (at_ + 4 * i))
  ·have w2 := JO l (at_ + 4 * i + 2 + j) (by omega) hl hm
   rw [show (((at_ + 4 * i + 2 + j : Nat) : Int)) = (at_ : Int) + 4 * (i : Int) + 2 + j by omega] at w2
   have r2 := Cb l (at_ + 4 * i + 2 + j)
   have p2 := DA (BQ l (at_ + 4 * i + 2 + j)) n (by rw [CL]; omega) (by omega)
   repeat' (first | (with_reducible first | refine W ?_ | refine Z0 ?_ | ((first | refine Wo fun K hK => ?_ | refine Wp ?_ | refine Wq ?_ | refine Wr ?_); (try simp only [go_sem, fN, seval, eT, iR, f0, f1, f2, f3, f8, t8, f9, t9, t300, t301, f10, f12, f13, t13, t959, f14, hjl, hfl, hml, dT, dF, nL]); (repeat refine Ai ?_); (try (refine hK _ ?_; clear hK K)); try refine iC ?_)) | refine Cg _ (w2) ?_ | refine Cg _ (p2) ?_)
   refine AK ⟨DR (BQ l (at_ + 4 * i)) - (j + 1), by omega, j + 1, by omega, rfl, ?_⟩
   simp only [go_sem, fN, seval, eT, iR, f0, f1, f2, f3, f8, t8, f9, t9, t300, t301, f10, f12, f13, t13, t959, f14, hfl]
   rw [Lo]
   simp
  ·have hjk : j = DR (BQ l (at_ + 4 * i)) := by omega
   subst hjk
   repeat' with_reducible first | refine W ?_ | refine Z0 ?_ | ((first | refine Wo fun K hK => ?_ | refine Wp ?_ | refine Wq ?_ | refine Wr ?_); (try simp only [go_sem, fN, seval, eT, iR, f0, f1, f2, f3, f8, t8, f9, t9, t300, t301, f10, f12, f13, t13, t959, f14, hjl, hfl, hml, Nat.lt_irrefl, dT, dF, nL]); (repeat refine Ai ?_); (try (refine hK _ ?_; clear hK K)); try refine iC ?_)
   refine AK ⟨mv - (i + 1), by omega, i + 1, by omega, rfl, ?_⟩
   simp only [go_sem, fN, seval, AS.drop, Ao, AC.clears, AC.clear, AC.highs, AC.high, Bool.not_false, Bool.true_and, Bool.and_self, AV.purge, AV.purges, AC.purge, AI.purge, List.contains_cons, List.contains_nil, Nat.reduceBEq, Bool.or_self, Bool.or_false, Bool.false_or, Bool.or_true, eT, iR, f0, f1, f2, f3, f8, t8, f9, t9, t300, t301, f10, f12, f13, t13, t959, f14, hml]
   rw [LP]
   simp [BK, mvF]
 ·have him : i = mv := by omega
  subst him
  have hml := Ge l at_ n i
  repeat' with_reducible first | refine W ?_ | refine Z0 ?_ | ((first | refine Wo fun K hK => ?_ | refine Wp ?_ | refine Wq ?_ | refine Wr ?_); (try simp only [go_sem, fN, seval, eT, iR, e0, e1, e2, e3, e8, s8, e9, s9, s300, s301, e10, s13, s959, hlt, dT, dF, nL]); (repeat refine Ai ?_); (try (refine hK _ ?_; clear hK K)); try refine iC ?_)
  refine IWP.loop (fun q s => ∃ k, k ≤ n ∧ q = n - k ∧ s.env 0 = Cw l ∧ s.env 1 = AR at_ ∧ s.env 2 = AR n ∧ s.env 8 = .one (.ptr 8 1 0 0) ∧ s.S 8 = some (.box 25 [.st (.int .i64 0), .full [], .full []]) ∧ s.env 9 = .one (.ptr 9 1 0 0) ∧ s.S 9 = some (.box 25 [.st (.int .i64 n), .row 300 i, .row 301 (B1 l at_ k).length]) ∧ s.S 300 = some (.arow 50 3 ((GV l at_ n i).map BK)) ∧ s.S 301 = some (.arow 3 1 ((B1 l at_ k).map CO)) ∧ s.env 15 = AR k) n
   ⟨0, Nat.zero_le _, rfl, by simp only [go_sem, fN, seval, eT, iR, e0], by simp only [go_sem, fN, seval, eT, iR, e1], by simp only [go_sem, fN, seval, eT, iR, e2], by simp only [go_sem, fN, seval, eT, iR, e8], by simp only [go_sem, fN, seval, eT, iR, s8], by simp only [go_sem, fN, seval, eT, iR, e9], by simp only [go_sem, fN, seval, eT, iR, s9]; rfl, by simp only [go_sem, fN, seval, eT, iR, s300], by simp only [go_sem, fN, seval, eT, iR, s301]; rfl, by simp only [go_sem, fN, seval, eT, iR]⟩ ?_
  rintro q ⟨env2, S2⟩ ⟨k, hk, rfl, f0, f1, f2, f8, t8, f9, t9, t300, t301, f15⟩
  simp only at f0 f1 f2 f8 t8 f9 t9 t300 t301 f15
  have hll := FI l at_ k
  have hlm : ((B1 l at_ k).map CO).length = (B1 l at_ k).length := List.length_map _
  by_cases hkl : (k : Int) < n
  ·have w3 := JO l (at_ + k + 3) (by omega) hl hm
   rw [show (((at_ + k + 3 : Nat) : Int)) = (at_ : Int) + k + 3 by omega] at w3
   have r3 := Cb l (at_ + k + 3)
   have p3 := DA (BQ l (at_ + k + 3)) 3 (by rw [CL]; omega) (by omega)
   by_cases h0 : A5 (BQ l (at_ + k + 3)) 3 = 0
   ·have hs : B1 l at_ (k + 1) = B1 l at_ k ++ [(k : Int)] := by rw [B1, if_pos h0]
    repeat' (first | (with_reducible first | refine W ?_ | refine Z0 ?_ | ((first | refine Wo fun K hK => ?_ | refine Wp ?_ | refine Wq ?_ | refine Wr ?_); (try simp only [go_sem, fN, seval, eT, iR, f0, f1, f2, f8, t8, f9, t9, t300, t301, f15, hkl, hlm, h0, dT, dF, nL]); (repeat refine Ai ?_); (try (refine hK _ ?_; clear hK K)); try refine iC ?_)) | refine Cg _ (w3) ?_ | refine Cg _ (p3) ?_)
    refine AK ⟨n - (k + 1), by omega, k + 1, by omega, rfl, ?_⟩
    simp only [go_sem, fN, seval, eT, iR, f0, f1, f2, f8, t8, f9, t9, t300, t301, f15, hlm]
    rw [hs]
    simp
   ·have hs : B1 l at_ (k + 1) = B1 l at_ k := by rw [B1, if_neg h0]
    repeat' (first | (with_reducible first | refine W ?_ | refine Z0 ?_ | ((first | refine Wo fun K hK => ?_ | refine Wp ?_ | refine Wq ?_ | refine Wr ?_); (try simp only [go_sem, fN, seval, eT, iR, f0, f1, f2, f8, t8, f9, t9, t300, t301, f15, hkl, hlm, h0, dT, dF, nL]); (repeat refine Ai ?_); (try (refine hK _ ?_; clear hK K)); try refine iC ?_)) | refine Cg _ (w3) ?_ | refine Cg _ (p3) ?_)
    refine AK ⟨n - (k + 1), by omega, k + 1, by omega, rfl, ?_⟩
    simp only [go_sem, fN, seval, eT, iR, f0, f1, f2, f8, t8, f9, t9, t300, t301, f15, hlm]
    rw [hs]
    simp
  ·have hkn : k = n := by omega
   subst hkn
   repeat' with_reducible first | refine W ?_ | refine Z0 ?_ | ((first | refine Wo fun K hK => ?_ | refine Wp ?_ | refine Wq ?_ | refine Wr ?_); (try simp only [go_sem, fN, seval, eT, iR, f0, f1, f2, f8, t8, f9, t9, t300, t301, f15, hkl, hlm, hml, Nat.lt_irrefl, dT, dF, nL]); (repeat refine Ai ?_); (try (refine hK _ ?_; clear hK K)); try refine iC ?_)
   simp only [go_sem, fN, seval, Af, AS.result, AH, AM, AY, f8, t8, t300, t301, hlm, hml]
   rfl

abbrev Bd := ByteArray × Tm
def Ot (b : Bd) : List SV := [.str b.1, .str b.2.name, .list (b.2.args.map BY)]
instance : Oe Ot 3 := ⟨fun _ => rfl⟩
def lookup (l : List Bd) (n : ByteArray) : Option Tm := (l.find? fun b => decide (b.1 = n)).map (·.2)
mutual
def Tm.on (s : List Bd) : Tm → Tm
 | .mk n xs => match (if xs.isEmpty then lookup s n else none) with
  | some x => x
  | none => .mk n (Tm.onL s xs)
def Tm.onL (s : List Bd) : List Tm → List Tm
 | [] => []
 | t :: ts => t.on s :: Tm.onL s ts
end




mutual
def Tm.occN (v : ByteArray) : Tm → Nat
 | .mk n xs => (if n = v then 1 else 0) + Tm.occNs v xs
def Tm.occNs (v : ByteArray) : List Tm → Nat
 | [] => 0
 | t :: ts => t.occN v + Tm.occNs v ts
end
def okV (a b : Tm) : Prop := ∀ v, A3 v = true → b.occN v ≤ a.occN v
theorem okV.trans {a b c : Tm} (h : okV a b) (k : okV b c) : okV a c := fun v hv => Nat.le_trans (k v hv) (h v hv)
inductive Lex (R : Tm → Tm → Prop) : List Tm → List Tm → Prop
 | here {x y xs ys} : x ≠ y → R x y → xs.length = ys.length → Lex R (x :: xs) (y :: ys)
 | on {x xs ys} : Lex R xs ys → Lex R (x :: xs) (x :: ys)
theorem Lex.len {R : Tm → Tm → Prop} {xs ys : List Tm} (h : Lex R xs ys) : xs.length = ys.length := by
 induction h with
 | here _ _ h => simp [h]
 | on _ ih => simp [ih]
theorem Lex.trans {R : Tm → Tm → Prop} : ∀ {xs ys zs : List Tm}, (∀ x ∈ xs, ∀ y ∈ ys, ∀ z ∈ zs, R x y → R y z → R x z ∧ x ≠ z) → Lex R xs ys → Lex R ys zs → Lex R xs zs := by
 intro xs ys zs ht h k
 induction h generalizing zs with
 | here hne hr hl =>
  cases k with
  | here hne2 hr2 hl2 =>
   obtain ⟨h1, h2⟩ := ht _ (by simp) _ (by simp) _ (by simp) hr hr2
   exact .here h2 h1 (hl.trans hl2)
  | on k => exact .here hne hr (hl.trans k.len)
 | on h ih =>
  cases k with
  | here hne2 hr2 hl2 => exact .here hne2 hr2 (h.len.trans hl2)
  | on k => exact .on (ih (fun x hx y hy z hz => ht x (by simp [hx]) y (by simp [hy]) z (by simp [hz])) k)
section
variable {s : List Bd} {a b : Tm} {row : List ByteArray}
theorem Lex.map {R : Tm → Tm → Prop} {f : Tm → Tm} : ∀ {xs ys : List Tm}, (∀ x ∈ xs, ∀ y ∈ ys, R x y → R (f x) (f y) ∧ f x ≠ f y) → Lex R xs ys → Lex R (xs.map f) (ys.map f) := by
 intro xs ys h k
 induction k with
 | here hne hr hl =>
  obtain ⟨h1, h2⟩ := h _ (by simp) _ (by simp) hr
  exact .here h2 h1 (by simp [hl])
 | on k ih => exact .on (ih fun x hx y hy => h x (by simp [hx]) y (by simp [hy]))
theorem Lex.at {R : Tm → Tm → Prop} {x y : Tm} (hne : x ≠ y) (h : R x y) : ∀ (xs ys : List Tm), Lex R (xs ++ x :: ys) (xs ++ y :: ys)
 | [], ys => .here hne h rfl
 | z :: xs, ys => .on (Lex.at hne h xs ys)
def Tm.ground (t : Tm) : Prop := ∀ k ∈ t.knots, A3 k.name = false
end

theorem Ga : ∀ {ms : List Mv} {p : Ab × Bool}, (ms.foldl A8 p).2 = false → (ms.foldl A8 p).1 = p.1 ∧ p.2 = false ∧ ∀ m ∈ ms, m.gain p.1 = none
 | [], p, h => ⟨rfl, h, by simp⟩
 | m :: ms, p, h => by
  rw [List.foldl_cons] at h ⊢
  obtain ⟨h1, h2, h3⟩ := Ga h
  have h2 : (p.2 || (m.gain p.1).isSome) = false := h2
  rw [Bool.or_eq_false_iff] at h2
  have e : (A8 p m).1 = p.1 := GD h2.2
  rw [e] at h1 h3
  refine ⟨h1, h2.1, fun x hx => ?_⟩
  rcases List.mem_cons.1 hx with rfl | hx
  ·have := h2.2
   cases hg : x.gain p.1 with
   | none => rfl
   | some t => rw [hg] at this; cases this
  ·exact h3 x hx
theorem Hp {ms : List Mv} : ∀ {n : Nat} {best out : Ab}, Eh ms n best out → ∀ m ∈ ms, m.gain out = none
 | 0, best, out, h => by
  have h : ms.foldl A8 (best, false) = (out, false) := h
  obtain ⟨h1, _, h3⟩ := Ga (ms := ms) (p := (best, false)) (by rw [h])
  rw [h] at h1
  have h1 : out = best := h1
  rw [h1]
  exact h3
 | n + 1, best, out, h => Hp h.2
def DE (a : Au) (best : Ab) : Prop := ∀ i t, best.getD i none = some t → (a.ends t).getD i false = true ∧ t.ground
theorem FT {a : Au} {best : Ab} (hb : DE a best) : ∀ {ss : List Int} {ts : List Tm}, BO best ss = some ts → Bk (a.endsL ts) ss = true ∧ ∀ t ∈ ts, t.ground
 | [], ts, h => by
  cases h
  exact ⟨rfl, by simp⟩
 | s :: ss, ts, h => by
  rw [BO] at h
  cases hx : best.getD s.toNat none with
  | none => rw [hx] at h; cases h
  | some t =>
   rw [hx] at h
   simp only at h
   cases hc : BO best ss with
   | none => rw [hc] at h; cases h
   | some us =>
    rw [hc] at h
    cases h
    obtain ⟨h1, h2⟩ := FT hb hc
    obtain ⟨q1, q2⟩ := hb _ _ hx
    refine ⟨?_, fun x hx => ?_⟩
    ·rw [Au.endsL, Bk, q1, h1]
     rfl
    ·rcases List.mem_cons.1 hx with rfl | hx
     ·exact q2
     ·exact h2 x hx
theorem KQ {n : ByteArray} {xs : List Tm} (hn : A3 n = false) (hx : ∀ x ∈ xs, x.ground) : (Tm.mk n xs).ground := by
 intro k hk
 rw [Tm.knots, List.mem_cons] at hk
 rcases hk with rfl | hk
 ·exact hn
 ·clear hn
  induction xs with
  | nil => simp [Tm.knotsL] at hk
  | cons x xs ih =>
   rw [Tm.knotsL, List.mem_append] at hk
   rcases hk with hk | hk
   ·exact hx x (by simp) k hk
   ·exact ih (fun y hy => hx y (by simp [hy])) hk
theorem I8 {a : Au} {best : Ab} (hb : DE a best) {m : Mv} (hm : m ∈ a.moves) (hok : Fn m) (ht : m.to_.toNat < a.states.toNat) : DE a (B0 best m) := by
 unfold B0
 cases hg : m.gain best with
 | none => exact hb
 | some t =>
  intro i u hu
  by_cases hi : m.to_.toNat = i
  ·subst hi
   have hc := D4 hg
   have e : u = t := by
    rw [List.getD_eq_getElem?_getD, List.getElem?_set] at hu
    simp only [if_true] at hu
    split at hu
    ·simpa using hu.symm
    ·cases hu
   subst e
   unfold Mv.cand at hc
   split at hc
   ·cases hc
   ·rename_i ts hts
    split at hc
    ·cases hc
     obtain ⟨h1, h2⟩ := FT hb hts
     refine ⟨?_, KQ hok.1.2 h2⟩
     rw [Au.ends_get _ _ _ ht, List.any_eq_true]
     exact ⟨m, hm, by simp [Mv.fits, Tm.name, Tm.args, h1]⟩
    ·cases hc
  ·refine hb i u ?_
   rw [List.getD_eq_getElem?_getD, List.getElem?_set_ne hi] at hu
   rw [List.getD_eq_getElem?_getD]
   exact hu
theorem DY {a : Au} : ∀ {ms : List Mv} {p : Ab × Bool}, DE a p.1 → (∀ m ∈ ms, m ∈ a.moves ∧ Fn m ∧ m.to_.toNat < a.states.toNat) → DE a (ms.foldl A8 p).1
 | [], p, h, _ => h
 | m :: ms, p, h, hm => by
  rw [List.foldl_cons]
  have h0 := hm m (by simp)
  exact DY (p := A8 p m) (I8 h h0.1 h0.2.1 h0.2.2) fun x hx => hm x (by simp [hx])
theorem Fh {a : Au} (hm : ∀ m ∈ a.moves, Fn m ∧ m.to_.toNat < a.states.toNat) : ∀ {n : Nat} {best out : Ab}, DE a best → Eh a.moves n best out → DE a out
 | 0, best, out, hb, h => by
  have h : a.moves.foldl A8 (best, false) = (out, false) := h
  have := DY (ms := a.moves) (p := (best, false)) hb fun m h => ⟨h, hm m h⟩
  rw [h] at this
  exact this
 | n + 1, best, out, hb, h => Fh hm (DY (p := (best, false)) hb fun m h => ⟨h, hm m h⟩) h.2
theorem Jl (a : Au) : DE a (Cq a) := fun i t h => by
 rw [List.getD_eq_getElem?_getD, Cq, List.getElem?_replicate] at h
 split at h <;> cases h
theorem Gf {t b : Tm} (h : ¬ Ck t b = true) : b.size ≤ t.size := by
 unfold Ck at h
 split at h
 ·omega
 ·simp only [decide_eq_true_eq] at h
  omega
theorem K7 {t b : Tm} (h : Ck t b = true) : t.size ≤ b.size := by
 unfold Ck at h
 split at h
 ·omega
 ·simp only [decide_eq_true_eq] at h
  omega
theorem GU {a : Au} {out : Ab} : ∀ {ts : List Tm} {ss : List Int}, Bk (a.endsL ts) ss = true → (∀ t ∈ ts, ∀ s : Nat, (a.ends t).getD s false = true → ∃ u, out.getD s none = some u ∧ u.size ≤ t.size) → ∃ us, BO out ss = some us ∧ Tm.sizes us ≤ Tm.sizes ts
 | [], [], _, _ => ⟨[], rfl, Nat.le_refl _⟩
 | [], _ :: _, h, _ => by simp [Au.endsL, Bk] at h
 | _ :: _, [], h, _ => by simp [Au.endsL, Bk] at h
 | t :: ts, s :: ss, h, hx => by
  rw [Au.endsL, Bk, Bool.and_eq_true] at h
  obtain ⟨u, hu, hz⟩ := hx t (by simp) s.toNat h.1
  obtain ⟨us, hus, hzs⟩ := GU h.2 fun x h => hx x (by simp [h])
  refine ⟨u :: us, ?_, ?_⟩
  ·rw [BO, hu, hus]
   rfl
  ·rw [Tm.sizes, Tm.sizes]
   omega
theorem EO {a : Au} {out : Ab} (hfix : ∀ m ∈ a.moves, m.gain out = none) : ∀ (N : Nat) (t : Tm), SizeOf.sizeOf t < N → t.size ≤ 2000 → ∀ s : Nat, (a.ends t).getD s false = true → ∃ u, out.getD s none = some u ∧ u.size ≤ t.size
 | 0, t, h, _ => by omega
 | N + 1, t, hN, hz => fun s hs => by
  have hlt : s < a.states.toNat := by
   rcases Nat.lt_or_ge s a.states.toNat with h | h
   ·exact h
   ·rw [List.getD_eq_getElem?_getD, List.getElem?_eq_none (by rw [a.ends_length]; exact h)] at hs
    cases hs
  rw [Au.ends_get _ _ _ hlt, List.any_eq_true] at hs
  obtain ⟨m, hm, h⟩ := hs
  simp only [Mv.fits, Bool.and_eq_true, decide_eq_true_eq] at h
  obtain ⟨⟨h1, h2⟩, h3⟩ := h
  have hsz := Tm.size_eq t
  obtain ⟨us, hus, hzs⟩ := GU h2 fun x hx => EO hfix N x (by have := Tm.lt_of_arg hx; omega) (by have := Tm.size_mem hx; omega)
  have hcz : (Tm.mk m.name us).size ≤ t.size := by
   rw [Tm.size, hsz]
   omega
  have hc : m.cand out = some (.mk m.name us) := by
   unfold Mv.cand
   rw [hus]
   simp only
   rw [if_pos (by omega)]
  have hg := hfix m hm
  unfold Mv.gain at hg
  rw [hc, h3] at hg
  simp only at hg
  cases ho : out.getD s none with
  | none => rw [ho] at hg; cases hg
  | some b =>
   rw [ho] at hg
   simp only at hg
   split at hg
   ·cases hg
   ·rename_i hl
    have := Gf hl
    exact ⟨b, rfl, by omega⟩
theorem HJ {best : Ab} : ∀ (ss : List Int) (o : Option Tm), (∀ s ∈ ss, ∀ t, best.getD s.toNat none = some t → ∃ u, ss.foldl (Df best) o = some u ∧ u.size ≤ t.size) ∧ (∀ v, o = some v → ∃ u, ss.foldl (Df best) o = some u ∧ u.size ≤ v.size) ∧ ∀ u, ss.foldl (Df best) o = some u → o = some u ∨ ∃ s ∈ ss, best.getD s.toNat none = some u
 | [], o => ⟨by simp, fun v h => ⟨v, h, Nat.le_refl _⟩, fun u h => .inl h⟩
 | s :: ss, o => by
  rw [List.foldl_cons]
  obtain ⟨h1, h2, h3⟩ := HJ ss (Df best o s)
  have key : (∀ t, best.getD s.toNat none = some t → ∃ u, Df best o s = some u ∧ u.size ≤ t.size) ∧ (∀ v, o = some v → ∃ u, Df best o s = some u ∧ u.size ≤ v.size) ∧ ∀ u, Df best o s = some u → o = some u ∨ best.getD s.toNat none = some u := by
   unfold Df
   cases best.getD s.toNat none with
   | none => exact ⟨fun t h => (by cases h), fun v h => ⟨v, h, Nat.le_refl _⟩, fun u h => .inl h⟩
   | some t =>
    cases o with
    | none => exact ⟨fun t' h => by cases h; exact ⟨t, rfl, Nat.le_refl _⟩, fun v h => (by cases h), fun u h => .inr h⟩
    | some v =>
     simp only
     split
     ·rename_i hl
      have := K7 hl
      exact ⟨fun t' h => by cases h; exact ⟨t, rfl, Nat.le_refl _⟩, fun v' h => by cases h; exact ⟨t, rfl, this⟩, fun u h => .inr h⟩
     ·rename_i hl
      have := Gf hl
      exact ⟨fun t' h => by cases h; exact ⟨v, rfl, this⟩, fun v' h => by cases h; exact ⟨v, rfl, Nat.le_refl _⟩, fun u h => .inl h⟩
  obtain ⟨k1, k2, k3⟩ := key
  refine ⟨fun s' hs' t ht => ?_, fun v hv => ?_, fun u hu => ?_⟩
  ·rcases List.mem_cons.1 hs' with rfl | hs'
   ·obtain ⟨u, hu, hz⟩ := k1 t ht
    obtain ⟨u', hu', hz'⟩ := h2 u hu
    exact ⟨u', hu', by omega⟩
   ·exact h1 s' hs' t ht
  ·obtain ⟨u, hu, hz⟩ := k2 v hv
   obtain ⟨u', hu', hz'⟩ := h2 u hu
   exact ⟨u', hu', by omega⟩
  ·rcases h3 u hu with h | ⟨s', hs', h⟩
   ·rcases k3 u h with h | h
    ·exact .inl h
    ·exact .inr ⟨s, by simp, h⟩
   ·exact .inr ⟨s', by simp [hs'], h⟩
def I2 (out : Ab) (z : Nat) : Nat := out.countP fun o => match o with
 | none => false
 | some v => decide (v.size < z)
theorem Kt {out : Ab} {u : Tm} {z : Nat} (hu : some u ∈ out) (h : u.size < z) : I2 out u.size < I2 out z := by
 induction out with
 | nil => cases hu
 | cons o out ih =>
  have hmono : I2 out u.size ≤ I2 out z := List.countP_mono_left fun o _ ho => by
   cases o with
   | none => cases ho
   | some v =>
    simp only [decide_eq_true_eq] at ho ⊢
    omega
  unfold I2 at ih hmono ⊢
  rw [List.countP_cons, List.countP_cons]
  rcases List.mem_cons.1 hu with rfl | hu
  ·simp only [Nat.lt_irrefl, decide_false, h, decide_true, if_true]
   simp
   omega
  ·have := ih hu
   cases o with
   | none => simpa using this
   | some v =>
    simp only [decide_eq_true_eq]
    split <;> split <;> omega
theorem Ic {out : Ab} {u : Tm} (hu : some u ∈ out) : I2 out u.size < out.length := by
 have h1 := Kt hu (show u.size < u.size + 1 by omega)
 have h2 : I2 out (u.size + 1) ≤ out.length := List.countP_le_length
 omega
theorem I6 {out : Ab} {s : Nat} {u : Tm} (h : out.getD s none = some u) : some u ∈ out := by
 rw [List.getD_eq_getElem?_getD] at h
 cases hg : out[s]? with
 | none => rw [hg] at h; cases h
 | some o =>
  rw [hg] at h
  cases h
  exact List.mem_of_getElem? hg
theorem Hu {out : Ab} {b : Nat} : ∀ {ss : List Int} {us : List Tm}, BO out ss = some us → (∀ u ∈ us, u.size ≤ b) → Tm.sizes us ≤ ss.length * b
 | [], us, h, _ => by cases h; simp [Tm.sizes]
 | s :: ss, us, h, hb => by
  rw [BO] at h
  cases hx : out.getD s.toNat none with
  | none => rw [hx] at h; cases h
  | some t =>
   rw [hx] at h
   simp only at h
   cases hc : BO out ss with
   | none => rw [hc] at h; cases h
   | some vs =>
    rw [hc] at h
    cases h
    have h1 := Hu hc fun u hu => hb u (by simp [hu])
    have h2 := hb t (by simp)
    rw [Tm.sizes, List.length_cons, Nat.add_mul]
    omega
theorem JV {a : Au} {out : Ab} (hfix : ∀ m ∈ a.moves, m.gain out = none) (hs : DE a out) (ho : CZ out) (h2 : ∀ m ∈ a.moves, m.frm.length ≤ 2) : ∀ (k : Nat) (s : Nat) (u : Tm), out.getD s none = some u → I2 out u.size ≤ k → u.size + 1 ≤ 2 ^ (k + 1)
 | k, s, u, hu, hk => by
  have hz := (ho u (I6 hu)).2
  have hlt : s < a.states.toNat := by
   have hs' := (hs s u hu).1
   rcases Nat.lt_or_ge s a.states.toNat with h | h
   ·exact h
   ·rw [List.getD_eq_getElem?_getD, List.getElem?_eq_none (by rw [a.ends_length]; exact h)] at hs'
    cases hs'
  have hend := (hs s u hu).1
  rw [Au.ends_get _ _ _ hlt, List.any_eq_true] at hend
  obtain ⟨m, hm, h⟩ := hend
  simp only [Mv.fits, Bool.and_eq_true, decide_eq_true_eq] at h
  obtain ⟨⟨h1, h2'⟩, h3⟩ := h
  have hsz := Tm.size_eq u
  obtain ⟨us, hus, hzs⟩ := GU h2' fun x hx => EO hfix _ x (Nat.lt_succ_self _) (by have := Tm.size_mem hx; omega)
  have hcz : (Tm.mk m.name us).size ≤ u.size := by
   rw [Tm.size, hsz]
   omega
  have hg := hfix m hm
  unfold Mv.gain at hg
  have hc : m.cand out = some (.mk m.name us) := by
   unfold Mv.cand
   rw [hus]
   simp only
   rw [if_pos (by omega)]
  rw [hc, h3, hu] at hg
  simp only at hg
  have hle : u.size ≤ (Tm.mk m.name us).size := by
   split at hg
   ·cases hg
   ·rename_i hl
    exact Gf hl
  have hle' : u.size = 1 + Tm.sizes us := by
   have e : (Tm.mk m.name us).size = 1 + Tm.sizes us := by rw [Tm.size]
   omega
  have hl := h2 m hm
  have hsub : ∀ v ∈ us, v.size + 1 ≤ 2 ^ k := fun v hv => by
   have hvm := Dv hus v hv
   have hvz : v.size < u.size := by
    have := Tm.size_mem hv
    omega
   have hlt2 := Kt hvm hvz
   obtain ⟨i, hi⟩ := List.getElem?_of_mem hvm
   have hd : out.getD i none = some v := by rw [List.getD_eq_getElem?_getD, hi]; rfl
   cases k with
   | zero => omega
   | succ k => exact JV hfix hs ho h2 k i v hd (by omega)
  have hp : 0 < 2 ^ k := Nat.pow_pos (by omega)
  have hf := Hu (b := 2 ^ k - 1) hus fun v hv => by have := hsub v hv; omega
  have hmul : m.frm.length * (2 ^ k - 1) ≤ 2 * (2 ^ k - 1) := Nat.mul_le_mul_right _ hl
  rw [Nat.pow_succ]
  omega
theorem Ew : ∀ (ks : List Tm) (l : List ByteArray), (∀ k ∈ ks, A3 k.name = false) → Ad l ks = l
 | [], l, _ => rfl
 | k :: ks, l, h => by
  have h1 := h k (by simp)
  have e : Ad l (k :: ks) = Ad (BC l k.name) ks := rfl
  rw [e, Ew ks _ fun x hx => h x (by simp [hx])]
  unfold BC
  simp [h1]
theorem JM {t : Tm} (h : t.ground) : t.varsOf = [] := Ew _ _ h

def Ci : IR :=
 (.seq (.ops [.i 6 (.alloc 28 [.st (.str (ByteArray.mk (#[]))), .full []]), .i 7 (.mov (.n 0))]) (.seq (.ops [.m 14 0, .m 15 1, .i 16 (.call 37 [.t 14, .t 15]), .m 8 16]) (.seq (.ops [.m 17 1, .i 18 (.bin .add (.t 17) (.n 1)), .m 1 18]) (.seq (.seq (.ops [.m 19 2, .i 20 (.bin .lss (.t 19) (.n 3)), .m 21 20, .mk (some 22) (some (21, false)) (.mov (.t 8)) .no, .mk (some 23) (some (21, false)) (.call 17 [.t 22, .n 5]) .no, .mk (some 24) (some (21, false)) (.bin .lss (.t 23) (.n 2)) .no, .i 25 (.pick (.t 21) (.c (.one (.st (.bool true)))) (.t 24))]) (.cond (.t 25) (.seq (.ops [.i 26 (.buildFlat [.c (.one (.st (.str (ByteArray.mk (#[97]))))), .c (.one (.st (.str (ByteArray.mk (#[98])))))]), .m 27 8, .i 28 (.bin .quo (.t 27) (.n 5)), .i 29 (.call 17 [.t 28, .n 2]), .i 30 (.indexAddr 1 (.t 26) (.t 29)), .l 31 30, .i 32 (.call 19 [.t 31]), .m 33 1, .s 2 6 32, .m 7 33]) .ret) .skip)) (.seq (.seq (.ops [.m 34 8, .i 35 (.bin .quo (.t 34) (.n 5)), .i 36 (.call 17 [.t 35, .n 2]), .i 37 (.bin .eql (.t 36) (.n 0))]) (.cond (.t 37) (.seq (.ops [.m 39 0, .m 40 1, .m 41 2, .i 42 (.bin .sub (.t 41) (.n 1)), .i 43 (.call 18 [.t 39, .t 40, .t 42]), .m 38 43, .i 44 (.extract 0 (.t 38)), .i 45 (.extract 1 (.t 38)), .i 9 (.alloc 28 [.st (.str (ByteArray.mk (#[]))), .full []]), .s 2 9 44, .m 10 45]) (.seq (.ops [.L 46 2 9, .i 47 (.buildSlice false 28 2 [.t 46]), .i 48 (.build [.st (.str (ByteArray.mk (#[]))), .full []] [(0, 1, .c (.one (.st (.str (ByteArray.mk (#[104])))))), (1, 1, .t 47)]), .m 49 10, .s 2 6 48, .m 7 49]) .ret)) .skip)) (.seq (.ops [.m 51 0, .m 52 1, .m 53 2, .i 54 (.bin .quo (.t 53) (.n 2)), .i 55 (.call 18 [.t 51, .t 52, .t 54]), .m 50 55, .i 56 (.extract 0 (.t 50)), .i 57 (.extract 1 (.t 50)), .i 11 (.alloc 28 [.st (.str (ByteArray.mk (#[]))), .full []]), .s 2 11 56, .m 12 57]) (.seq (.ops [.m 59 0, .m 60 12, .m 61 2, .i 62 (.bin .quo (.t 61) (.n 2)), .i 63 (.call 18 [.t 59, .t 60, .t 62]), .m 58 63, .i 64 (.extract 0 (.t 58)), .i 65 (.extract 1 (.t 58)), .i 13 (.alloc 28 [.st (.str (ByteArray.mk (#[]))), .full []]), .s 2 13 64, .m 12 65]) (.seq (.ops [.L 66 2 11, .L 67 2 13, .i 68 (.buildSlice false 28 2 [.t 66, .t 67]), .i 69 (.build [.st (.str (ByteArray.mk (#[]))), .full []] [(0, 1, .c (.one (.st (.str (ByteArray.mk (#[102])))))), (1, 1, .t 68)]), .m 70 12, .s 2 6 69, .m 7 70]) .ret))))))))
theorem Dk : OkF Try.prog 18 71 [] Ci [.cell 6 true 2, .t 7] := .of Try.func18 rfl rfl (by kernel_rfl) rfl


def JJ (l : List Int) (at_ : Nat) (most : Int) (t : Tm) : Prop :=
 Ac Try.prog 18 [Cw l, AR at_, AR most] (.tup [aTm t, AR ((at_ + t.size : Nat) : Int)])
theorem FP {n : ByteArray} {xs : List Tm} (hn : A3 n = false) (hx : ∀ x ∈ xs, x.ground) : (Tm.mk n xs).ground := by
 intro k hk
 rw [Tm.knots, List.mem_cons] at hk
 rcases hk with rfl | hk
 ·exact hn
 ·clear hn
  induction xs with
  | nil => simp [Tm.knotsL] at hk
  | cons x xs ih =>
   rw [Tm.knotsL, List.mem_append] at hk
   rcases hk with hk | hk
   ·exact hx x (by simp) k hk
   ·exact ih (fun y hy => hx y (by simp [hy])) hk
theorem LH (l : List Int) (hl : ∀ n ∈ l, inR .i64 n) (hm : l.length ≤ maxLen) : ∀ (most : Nat) (at_ : Nat), most ≤ 1000 → at_ + 2 * most ≤ 900000 → ∃ t : Tm, JJ l at_ most t ∧ t.size + 1 ≤ max 2 (2 * most) ∧ t.chk = 0 ∧ t.ground := by
 intro most
 induction most using Nat.strongRecOn with
 | _ most ih =>
 intro at_ h1000 hat
 have hraw := JO l at_ (by omega) hl hm
 have hr := Cb l at_
 generalize BQ l at_ = c at hraw hr
 have d5 := EJ (x := c) (n := 5) (by omega) (by omega)
 have p5 := DA c 5 (by rw [CL]; omega) (by omega)
 have q5 := Ax c 5 (by omega)
 have p52 := DA (c / 5) 2 (by rw [CL]; omega) (by omega)
 have q52 := Ax (c / 5) 2 (by omega)
 generalize A5 c 5 = x5 at p5 q5
 generalize A5 (c / 5) 2 = x52 at p52 q52
 by_cases hleaf : (most : Int) < 3 ∨ x5 < 2
 ·obtain ⟨nm, hnm, hch, hgr⟩ : ∃ nm, [([.str ⟨#[97]⟩] : List SV), [.str ⟨#[98]⟩]][x52.toNat]? = some [.str nm] ∧ (Tm.mk nm []).chk = 0 ∧ A3 nm = false := by
   have : x52.toNat = 0 ∨ x52.toNat = 1 := by omega
   rcases this with h | h <;> rw [h] <;> exact ⟨_, rfl, by decide, by decide⟩
  refine ⟨.mk nm [], ?_, by simp only [Tm.size, Tm.sizes]; omega, hch, FP hgr (by simp)⟩
  unfold JJ
  refine Dk.ac fun C hC => ?_
  unfold Ci
  repeat' with_reducible first | refine W ?_ | refine Z0 ?_ | ((first | refine Wo fun K hK => ?_ | refine Wp ?_ | refine Wq ?_ | refine Wr ?_); (try simp only [go_sem, fN, seval, eT, iR, dT, dF, nL]); (repeat refine Ai ?_); (try (refine hK _ ?_; clear hK K)); try refine iC ?_)
  refine ⟨_, hraw, ?_⟩
  by_cases hm3 : (most : Int) < 3
  ·repeat' (first | (with_reducible first | refine W ?_ | refine Z0 ?_ | ((first | refine Wo fun K hK => ?_ | refine Wp ?_ | refine Wq ?_ | refine Wr ?_); (try simp only [go_sem, fN, seval, eT, iR, hm3, d5.1, hnm, dT, dF, nL]); (repeat refine Ai ?_); (try (refine hK _ ?_; clear hK K)); try refine iC ?_)) | refine Cg _ (p52) ?_ | refine Cg _ (Gx nm) ?_)
   simp only [go_sem, fN, seval, Af, AS.result, AH, AM, AY]
   simp only [AV.tup.injEq, AV.agg.injEq, AV.one.injEq, AC.st.injEq, SV.int.injEq, SV.str.injEq, SV.bool.injEq, SV.list.injEq, List.cons.injEq, Option.some.injEq, true_and, and_true, eq_self, CM, Tm.args_mk, Tm.name_mk, List.map_cons, List.map_nil, List.map_append, Tm.size, Tm.sizes]
   omega
  ·have h5 : x5 < 2 := by omega
   repeat' (first | (with_reducible first | refine W ?_ | refine Z0 ?_ | ((first | refine Wo fun K hK => ?_ | refine Wp ?_ | refine Wq ?_ | refine Wr ?_); (try simp only [go_sem, fN, seval, eT, iR, hm3, h5, d5.1, hnm, dT, dF, nL]); (repeat refine Ai ?_); (try (refine hK _ ?_; clear hK K)); try refine iC ?_)) | refine Cg _ (p5) ?_ | refine Cg _ (p52) ?_ | refine Cg _ (Gx nm) ?_)
   simp only [go_sem, fN, seval, Af, AS.result, AH, AM, AY]
   simp only [AV.tup.injEq, AV.agg.injEq, AV.one.injEq, AC.st.injEq, SV.int.injEq, SV.str.injEq, SV.bool.injEq, SV.list.injEq, List.cons.injEq, Option.some.injEq, true_and, and_true, eq_self, CM, Tm.args_mk, Tm.name_mk, List.map_cons, List.map_nil, List.map_append, Tm.size, Tm.sizes]
   omega
 ·have hm3 : ¬ (most : Int) < 3 := by omega
  have h5 : ¬ x5 < 2 := by omega
  by_cases h0 : x52 = 0
  ·obtain ⟨t, ht, hs, hc1, hg1⟩ := ih (most - 1) (by omega) (at_ + 1) (by omega) (by omega)
   unfold JJ at ht
   rw [show (((at_ + 1 : Nat) : Int)) = (at_ : Int) + 1 by omega, show (((most - 1 : Nat) : Int)) = (most : Int) - 1 by omega] at ht
   refine ⟨.mk ⟨#[104]⟩ [t], ?_, by simp only [Tm.size, Tm.sizes]; omega, Ir (by decide) (by decide) (by simp [hc1]), FP (by decide) (by simp [hg1])⟩
   unfold JJ
   subst h0
   refine Dk.ac fun C hC => ?_
   unfold Ci
   repeat' (first | (with_reducible first | refine W ?_ | refine Z0 ?_ | ((first | refine Wo fun K hK => ?_ | refine Wp ?_ | refine Wq ?_ | refine Wr ?_); (try simp only [go_sem, fN, seval, eT, iR, hm3, h5, d5.1, dT, dF, nL]); (repeat refine Ai ?_); (try (refine hK _ ?_; clear hK K)); try refine iC ?_)) | refine Cg _ (hraw) ?_ | refine Cg _ (p5) ?_ | refine Cg _ (p52) ?_ | refine Cg _ (ht) ?_)
   simp only [go_sem, fN, seval, Af, AS.result, AH, AM, AY]
   simp only [AV.tup.injEq, AV.agg.injEq, AV.one.injEq, AC.st.injEq, SV.int.injEq, SV.str.injEq, SV.bool.injEq, SV.list.injEq, List.cons.injEq, Option.some.injEq, true_and, and_true, eq_self, CM, Tm.args_mk, Tm.name_mk, List.map_cons, List.map_nil, List.map_append, Tm.size, Tm.sizes]
   omega
  have d2 := EJ (x := (most : Int)) (n := 2) (by omega) (by omega)
  have e2 : (most : Int) / 2 = ((most / 2 : Nat) : Int) := by omega
  obtain ⟨t, ht, hs, hc1, hg1⟩ := ih (most / 2) (by omega) (at_ + 1) (by omega) (by omega)
  obtain ⟨u, hu, hs', hc2, hg2⟩ := ih (most / 2) (by omega) (at_ + 1 + t.size) (by omega) (by omega)
  refine ⟨.mk ⟨#[102]⟩ [t, u], ?_, by simp only [Tm.size, Tm.sizes]; omega, Ir (by decide) (by decide) (by simp [hc1, hc2]), FP (by decide) (by simp [hg1, hg2])⟩
  unfold JJ at ht hu ⊢
  rw [show (((at_ + 1 : Nat) : Int)) = (at_ : Int) + 1 by omega] at ht
  refine Dk.ac fun C hC => ?_
  unfold Ci
  repeat' (first | (with_reducible first | refine W ?_ | refine Z0 ?_ | ((first | refine Wo fun K hK => ?_ | refine Wp ?_ | refine Wq ?_ | refine Wr ?_); (try simp only [go_sem, fN, seval, eT, iR, hm3, h5, d5.1, h0, d2.1, e2, dT, dF, nL]); (repeat refine Ai ?_); (try (refine hK _ ?_; clear hK K)); try refine iC ?_)) | refine Cg _ (hraw) ?_ | refine Cg _ (p5) ?_ | refine Cg _ (p52) ?_ | refine Cg _ (ht) ?_ | refine Cg _ (hu) ?_)
  simp only [go_sem, fN, seval, Af, AS.result, AH, AM, AY]
  simp only [AV.tup.injEq, AV.agg.injEq, AV.one.injEq, AC.st.injEq, SV.int.injEq, SV.str.injEq, SV.bool.injEq, SV.list.injEq, List.cons.injEq, Option.some.injEq, true_and, and_true, eq_self, CM, Tm.args_mk, Tm.name_mk, List.map_cons, List.map_nil, List.map_append, Tm.size, Tm.sizes]
  omega

theorem Gw {a : Au} {t : Tm} (ha : a.may 8 40 = 0) (hc : t.chk = 0) (hz : t.size ≤ 200) (hg : t.ground) : C8 a t = 0 := by
 have hm : t.may = 0 := by
  unfold Tm.may
  rw [if_neg (by omega), hc]
 unfold C8
 rw [if_pos ha, if_pos hm, JM hg]
 rfl
theorem M3 {a : Au} (ha : a.may 8 40 = 0) (h4 : a.states ≤ 4) (h2 : ∀ m ∈ a.moves, m.frm.length ≤ 2) {n : Nat} {out : Ab} (hout : Eh a.moves n (Cq a) out) (t : Tm) (hz : t.size ≤ 2000) :
  (DT out a.last = none → a.acc t = false) ∧ ∀ x, DT out a.last = some x → a.acc x = true ∧ Eo x ∧ x.size ≤ 15 ∧ x.ground ∧ (a.acc t = true → x.size ≤ t.size) := by
 have ga := Au.may_good ha
 have hst := ga.states
 have hmv := ON ha
 obtain ⟨hoo, hol⟩ := Gl hmv (EU a) hout
 have hfix := Hp hout
 have hsd := Fh (fun m hm => ⟨hmv m hm, by have := ga.to_ m hm; omega⟩) (Jl a) hout
 obtain ⟨k1, _, k3⟩ := HJ (best := out) a.last none
 have hacc : a.acc t = true → ∃ u, DT out a.last = some u ∧ u.size ≤ t.size := fun h => by
  unfold Au.acc at h
  rw [List.any_eq_true] at h
  obtain ⟨s, hs, h⟩ := h
  obtain ⟨u, hu, hzu⟩ := EO hfix _ t (Nat.lt_succ_self _) hz s.toNat h
  obtain ⟨u', hu', hzu'⟩ := k1 s hs u hu
  exact ⟨u', hu', by omega⟩
 refine ⟨fun h => ?_, fun x hx => ?_⟩
 ·cases hq : a.acc t with
  | false => rfl
  | true =>
   obtain ⟨u, hu, _⟩ := hacc hq
   rw [h] at hu
   cases hu
 ·rcases k3 x hx with h | ⟨s, hs, h⟩
  ·cases h
  ·obtain ⟨q1, q2⟩ := hsd _ _ h
   have hm := I6 h
   have hcl := Ic hm
   have hlen : out.length ≤ 4 := by
    rw [hol]
    simp only [Cq, List.length_replicate]
    omega
   have hfew := JV hfix hsd hoo h2 3 _ _ h (by omega)
   refine ⟨?_, hoo x hm, by omega, q2, fun ht => ?_⟩
   ·unfold Au.acc
    rw [List.any_eq_true]
    exact ⟨s, hs, q1⟩
   ·obtain ⟨u, hu, hzu⟩ := hacc ht
    rw [hx] at hu
    cases hu
    exact hzu
def Mr : Au := ⟨1, [⟨⟨#[97]⟩, [], 0⟩], [0]⟩
theorem Mj : Ac Try.prog 12 [.agg [.st (.int .i64 1), .st (.list [[.str ⟨#[97]⟩, .list [], .int .i64 0]]), .st (.list [[.int .i64 0]])], aTm (.mk ⟨#[97]⟩ [])] (.tup [BX true, AR 0]) := by
 have h := FO Mr (.mk ⟨#[97]⟩ []) (by decide) (by decide)
 have e : C8 Mr (.mk ⟨#[97]⟩ []) = 0 := by decide +kernel
 have e2 : Mr.acc (.mk ⟨#[97]⟩ []) = true := by decide +kernel
 rw [e, e2] at h
 exact h
set_option maxRecDepth 100000 in
theorem LK (l : List Int) (m1 m2 : Int) (hl : ∀ n ∈ l, inR .i64 n) (hm : l.length ≤ maxLen) (h1 : inR .i64 m1) (h2 : inR .i64 m2) : Ac Try.prog 4 [Cw l, AR m1, AR m2] (BX true) := by
 by_cases h256 : (256 : Int) < l.length
 ·refine A1.ac fun C hC => ?_
  unfold An
  repeat' with_reducible first | refine W ?_ | refine Z0 ?_ | ((first | refine Wo fun K hK => ?_ | refine Wp ?_ | refine Wq ?_ | refine Wr ?_); (try simp only [go_sem, fN, seval, eT, iR, h256, dT, dF, nL]); (repeat refine Ai ?_); (try (refine hK _ ?_; clear hK K)); try refine iC ?_)
  simp only [go_sem, fN, seval, Af, AS.result, AH, AM, AY]
 have r1 := Ax m1 4 (by omega)
 have p1 := DA m1 4 h1 (by omega)
 obtain ⟨k1, e1⟩ : ∃ k : Nat, A5 m1 4 = k := ⟨(A5 m1 4).toNat, by omega⟩
 rw [e1] at p1 r1
 have r2 := Ax m2 12 (by omega)
 have p2 := DA m2 12 h2 (by omega)
 obtain ⟨k2, e2⟩ : ∃ k : Nat, A5 m2 12 = k := ⟨(A5 m2 12).toNat, by omega⟩
 rw [e2] at p2 r2
 have cF := J2 l hl hm 0 (1 + k1) k2 (by omega) (by omega) (by omega) (by omega)
 rw [show (((1 + k1 : Nat) : Int)) = 1 + (k1 : Int) by omega, show (((0 : Nat) : Int)) = 0 from rfl] at cF
 have hma := Nm l 0 (1 + k1) k2 (by omega) (by omega) (by omega)
 have h2a := No l 0 (1 + k1) k2 (by omega)
 have hsa : (auF l 0 (1 + k1) k2).states ≤ 4 := by simp only [auF]; omega
 have hla : (auF l 0 (1 + k1) k2).last.length ≤ 100000 := by
  have := FI l 0 (1 + k1)
  simp only [auF]
  omega
 generalize auF l 0 (1 + k1) k2 = a at *
 obtain ⟨t, ht, hz, hc, hg⟩ := LH l hl hm 14 80 (by omega) (by omega)
 have ht : Ac Try.prog 18 [Cw l, AR 80, AR 14] (.tup [aTm t, AR ((80 + t.size : Nat) : Int)]) := ht
 have hz : t.size ≤ 27 := by omega
 have cA := FO a t hla (by omega)
 rw [Gw hma hc (by omega) hg] at cA
 have cA : Ac Try.prog 12 [aAu a, aTm t] (.tup [BX (a.acc t), AR 0]) := by
  have h4 : (decide ((0 : Int) = 0) && a.acc t) = a.acc t := by simp
  rwa [h4] at cA
 obtain ⟨n, out, hout⟩ := Ny hma
 have cS := OK a hla hma hout
 obtain ⟨w1, w2⟩ := M3 hma hsa h2a hout t (by omega)
 generalize DT out a.last = o at *
 cases o with
 | none =>
  rw [w1 rfl] at cA
  refine A1.ac fun C hC => ?_
  unfold An
  repeat' (first | (with_reducible first | refine W ?_ | refine Z0 ?_ | ((first | refine Wo fun K hK => ?_ | refine Wp ?_ | refine Wq ?_ | refine Wr ?_); (try simp only [go_sem, fN, seval, eT, iR, h256, Ke, dT, dF, nL]); (repeat refine Ai ?_); (try (refine hK _ ?_; clear hK K)); try refine iC ?_)) | refine Cg _ (p1) ?_ | refine Cg _ (p2) ?_ | refine Cg _ (cF) ?_ | refine Cg _ (ht) ?_ | refine Cg _ (cA) ?_ | refine Cg _ (cS) ?_ | refine Cg _ (Gx ⟨#[97]⟩) ?_ | refine Cg _ (Mj) ?_)
  simp only [go_sem, fN, seval, Af, AS.result, AH, AM, AY]
 | some x =>
  obtain ⟨x1, x2, x3, x4, x5⟩ := w2 x rfl
  have cX := FO a x hla (by omega)
  rw [Gw hma x2.1 (by omega) x4, x1] at cX
  have cX : Ac Try.prog 12 [aAu a, aTm x] (.tup [BX true, AR 0]) := cX
  cases hq : a.acc t with
  | false =>
   rw [hq] at cA
   refine A1.ac fun C hC => ?_
   unfold An
   repeat' (first | (with_reducible first | refine W ?_ | refine Z0 ?_ | ((first | refine Wo fun K hK => ?_ | refine Wp ?_ | refine Wq ?_ | refine Wr ?_); (try simp only [go_sem, fN, seval, eT, iR, h256, Ke, dT, dF, nL]); (repeat refine Ai ?_); (try (refine hK _ ?_; clear hK K)); try refine iC ?_)) | refine Cg _ (p1) ?_ | refine Cg _ (p2) ?_ | refine Cg _ (cF) ?_ | refine Cg _ (ht) ?_ | refine Cg _ (cA) ?_ | refine Cg _ (cS) ?_ | refine Cg _ (Gx ⟨#[97]⟩) ?_ | refine Cg _ (Mj) ?_ | refine Cg _ (cX) ?_)
   simp only [go_sem, fN, seval, Af, AS.result, AH, AM, AY]
  | true =>
   rw [hq] at cA
   have hzz := x5 hq
   have zx := Ky x 2000 (by decide) (by decide)
   have zt := Ky t 2000 (by decide) (by decide)
   have ex : BP x.size 2000 = x.size := by unfold BP; split <;> omega
   have et : BP t.size 2000 = t.size := by unfold BP; split <;> omega
   rw [ex] at zx
   rw [et] at zt
   have hzz' : (x.size : Int) ≤ t.size := by omega
   refine A1.ac fun C hC => ?_
   unfold An
   repeat' (first | (with_reducible first | refine W ?_ | refine Z0 ?_ | ((first | refine Wo fun K hK => ?_ | refine Wp ?_ | refine Wq ?_ | refine Wr ?_); (try simp only [go_sem, fN, seval, eT, iR, h256, Ke, hzz', dT, dF, nL]); (repeat refine Ai ?_); (try (refine hK _ ?_; clear hK K)); try refine iC ?_)) | refine Cg _ (p1) ?_ | refine Cg _ (p2) ?_ | refine Cg _ (cF) ?_ | refine Cg _ (ht) ?_ | refine Cg _ (cA) ?_ | refine Cg _ (cS) ?_ | refine Cg _ (Gx ⟨#[97]⟩) ?_ | refine Cg _ (Mj) ?_ | refine Cg _ (cX) ?_ | refine Cg _ (zx) ?_ | refine Cg _ (zt) ?_)
   simp only [go_sem, fN, seval, Af, AS.result, AH, AM, AY]

open Go.ChangeShapes Go.WideShapes Go.ChangeAt
section
variable {H : Type} {enc : TypeId × Value → H} {P : Program}
theorem D8 (hl : laidOutB P = true) : ∀ {ts : List TypeId} {vs : List Value} {ds : List (DataW H)} {ps : List MemPlace} {W W' : World} {sp : Nat → Bool},
  (∀ t ∈ ts, P.readableRec t = true ∧ t < P.types.size) → DataW.TrodAll enc P W 0 (fun _ => true) true ts vs ds ps → (∀ p ∈ ps, W.sameAt W' p) → (∀ p ∈ ps, sp p.block = true) → DataW.TrodAll enc P W' 0 sp true ts vs ds ps
 | [], [], [], _, _, _, _, _, h, _, _ => h
 | _ :: _, _ :: _, _ :: _, _, _, _, _, hT, ⟨p, q, h1, h2, e⟩, hsame, hs => ⟨p, q, WideElems.Trod_stays hl (hT _ (List.mem_cons.2 (Or.inl rfl))).1 (hT _ (List.mem_cons.2 (Or.inl rfl))).2 h1 (fun x hx => hsame x (by rw [e]; exact List.mem_append_left _ hx)) (fun x hx => hs x (by rw [e]; exact List.mem_append_left _ hx)),
   D8 hl (fun t ht => hT t (List.mem_cons.2 (Or.inr ht))) h2 (fun x hx => hsame x (by rw [e]; exact List.mem_append_right _ hx)) (fun x hx => hs x (by rw [e]; exact List.mem_append_right _ hx)), e⟩
 | [], _ :: _, _, _, _, _, _, _, h, _, _ => h.elim
 | [], [], _ :: _, _, _, _, _, _, h, _, _ => h.elim
 | _ :: _, [], _, _, _, _, _, _, h, _, _ => h.elim
 | _ :: _, _ :: _, [], _, _, _, _, _, h, _, _ => h.elim
theorem M_ {f : Func} {s : ChangeSpec} {apart fresh handsOn : Bool} {W W' : World} {args : Array Value} {ds : List (DataW H)} {before : List MemPlace} {tb : TypeId}
  (hW : DataW.Whole enc P f.params.toList s.vars apart W args.toList ds [] before) (hv : s.vars = []) (hr : f.resultTypes = #[tb]) (htb : P.underlying tb = some .bool)
  (hres : (s.fn H (ds ++ [])).results = [.lit (.bool true)]) (hargs : (s.fn H (ds ++ [])).args = ds) (hvs : (s.fn H (ds ++ [])).vars = [])
  (hl : laidOutB P = true) (hT : (f.params.toList.all fun t => P.readableRec t && decide (t < P.types.size)) = true) (hb : Below W.heap.size W W') :
  s.post enc P f apart fresh handsOn false W args (.bool true) W' := by
 have hlt : ∀ p ∈ before, p.block < W.heap.size := fun p hp => hW.lt p hp
 have hT' : ∀ t ∈ f.params.toList, P.readableRec t = true ∧ t < P.types.size := fun t ht => by
  have := List.all_eq_true.1 hT t ht
  simpa using this
 obtain ⟨p, q, hA, hV, rfl, hz, hn⟩ := hW
 rw [hv] at hV
 obtain ⟨_, rfl⟩ := trodVars_none hV
 have hargs' : ∀ sp : Nat → Bool, (∀ x ∈ p, sp x.block = true) → DataW.TrodAll enc P W' 0 sp true f.params.toList args.toList ds p := fun sp hsp =>
  D8 hl hT' hA (fun x hx => hb.same (hlt x (by simpa using hx))) hsp
 have hres' : ∀ (b : Nat) (sp : Nat → Bool) (hd : Bool), DataW.TrodAll enc P W' b sp hd f.resultTypes.toList ((Value.bool true).resultList f.resultTypes.size) (s.fn H (ds ++ [])).results [] := fun b sp hd => by
  rw [hres, hr]
  exact trodAll_cons_mk (shut_bool htb true) trodAll_mk0
 refine ⟨ds, [], p ++ [], [], p, [], ⟨p, [], hA, by rw [hv]; exact rfl, rfl, hz, hn⟩, hres' _ _ _, by rw [hargs]; exact hargs' _ (fun x hx => by simpa using hlt x (by simpa using hx)), by rw [hv, hvs]; exact rfl,
  World.keptBut_mono (fun x hx => ⟨hx, Or.inr (by simpa using hx)⟩) (hb.frame (· ∈ p ++ [])), fun h => by cases h⟩
variable {W : World} {sp : Nat → Bool} {hd : Bool} {base : Nat}
def sto (W : World) : Sto := Bz W
theorem Np (W : World) : Fit (sto W) W := fun _ _ h => h
theorem HY {W : World} {a : Addr} {v : Value} (h : W.cell? a = some v) : a.spot = none := by
 cases hs : a.spot with
 | none => rfl
 | some n =>
  unfold World.cell? at h
  split at h
  ·simp [hs] at h
  ·cases h
theorem JW {α : Type} {p : Nat → α → Prop} {n : Nat} (h : ∀ i, i < n → ∃ b, p i b) : ∃ xs : List α, xs.length = n ∧ ∀ i (h : i < xs.length), p i xs[i] := by
 induction n with
 | zero => exact ⟨[], rfl, fun i h => absurd h (by simp)⟩
 | succ m ih =>
  obtain ⟨xs, h1, h2⟩ := ih (fun i hi => h i (by omega))
  obtain ⟨b, h3⟩ := h m (by omega)
  refine ⟨xs ++ [b], by simp [h1], fun i hi => ?_⟩
  by_cases him : i < xs.length
  ·rw [List.getElem_append_left him]
   exact h2 i him
  ·have : i = xs.length := by simp at hi; omega
   subst this
   rw [show (xs ++ [b])[xs.length]'hi = b by simp, h1]
   exact h3
theorem IA {α : Type} {e0 : α → List SV} {t e : TypeId} {k : Nat} {fuel : Nat} {cs : List Value} {x : DataW H × List MemPlace} (ht : P.underlying t = some (.slice e)) (hc : P.cellsOf e = k) (hlen : ∀ a, (e0 a).length = k) (hk : 0 < k)
  (f : ∀ (n : Nat) (cs : List Value) (y : DataW H × List MemPlace), n < fuel → DataW.trod enc P W base sp hd n e cs = some y → ∃ a : α, AP (Aa (sto W)) cs (e0 a))
  (h : DataW.trod enc P W base sp hd fuel t cs = some x) (hs : BH = true → k < 2 := by decide) : ∃ xs : List α, AP (Aa (sto W)) cs [.list (xs.map e0)] := by
 rcases DataW.trod_slice ht h with ⟨rfl, _⟩ | ⟨a, len, cap, CD, rest, n, hfu, rfl, _, hb, hl, hm, hlen', hel, _, _⟩
 ·exact ⟨[], .cons JX .nil⟩
 ·have key : ∀ i, i < len → ∃ (b : α), ∃ (cs' : List Value), cs'.length = k ∧ (∀ j u, cs'[j]? = some u → W.cell? ((a.add (i * k)).add j) = some u) ∧ AP (Aa (sto W)) cs' (e0 b) := fun i hi => by
   have h1 := hel i hi
   rw [List.getElem?_eq_getElem (by omega)] at h1
   obtain ⟨cs', h2, h3⟩ := Option.bind_eq_some_iff.1 h1
   obtain ⟨_, h4, h5⟩ := World.cells?_some h2
   obtain ⟨b, hb⟩ := f n cs' _ (by omega) h3
   rw [hc] at h4 h5
   refine ⟨b, cs', h4, fun j u hj => ?_, hb⟩
   rw [h5 j (by have := (List.getElem?_eq_some_iff.1 hj).1; omega)]
   exact hj
  obtain ⟨xs, hxl, hxs⟩ : ∃ xs : List α, xs.length = len ∧ ∀ i (h : i < xs.length), ∃ cs' : List Value, cs'.length = k ∧ (∀ j u, cs'[j]? = some u → W.cell? ((a.add (i * k)).add j) = some u) ∧ AP (Aa (sto W)) cs' (e0 xs[i]) := JW key
  have cell : ∀ m y j z, (xs.map e0)[m]? = some y → y[j]? = some z → ∃ v, W.cell? ⟨a.block, a.off + m * k + j, none⟩ = some v ∧ Aa (sto W) v z := fun m y j z hy hz => by
   rw [List.getElem?_map, Option.map_eq_some_iff] at hy
   obtain ⟨b, hb', rfl⟩ := hy
   obtain ⟨hm', hbe⟩ := List.getElem?_eq_some_iff.1 hb'
   obtain ⟨cs', c1, c2, c3⟩ := hxs m hm'
   rw [hbe] at c3
   obtain ⟨v, v1, v2⟩ := c3.get hz
   refine ⟨v, ?_, v2⟩
   have := c2 j v v1
   have hsp := HY this
   rw [← this]
   congr 1
   have h7 : ((a.add (m * k)).add j).block = a.block ∧ ((a.add (m * k)).add j).off = a.off + m * k + j := by
    unfold Addr.add
    split <;> split <;> simp_all
   generalize (a.add (m * k)).add j = q at *
   cases q
   simp_all
  refine ⟨xs, .cons (.list (b := a.block) (o := a.off) (w := k) (fun m j => (W.cell? ⟨a.block, a.off + m * k + j, none⟩).getD undef) (by simp [hxl]) hl hm (by simp) (fun h0 => ?_) (fun y hy => ?_) (fun q1 q2 _ => absurd (hs q1) (by omega)) (fun m y j z hy hz => ?_) (fun m y j z hy hz => ?_)) .nil⟩
  ·obtain ⟨cs', h1, h2, h3⟩ := hxs 0 (by omega)
   have h4 : W.cell? a = some (cs'[0]'(by omega)) := by
    have := h2 0 _ (List.getElem?_eq_getElem (by omega))
    simpa [Addr.add] using this
   have := HY h4
   cases a
   simp_all
  ·obtain ⟨b, _, rfl⟩ := List.mem_map.1 hy
   exact hlen b
  ·obtain ⟨v, v1, v2⟩ := cell m y j z hy hz
   show W.cell? _ = _
   rw [v1]; rfl
  ·obtain ⟨v, v1, v2⟩ := cell m y j z hy hz
   rw [v1]; exact v2
theorem I3 {t : TypeId} (ht : P.underlying t = some (.int .i64)) (fuel : Nat) (cs : List Value) (x : DataW H × List MemPlace) (h : DataW.trod enc P W base sp hd fuel t cs = some x) : ∃ n : Int, AP (Aa (sto W)) cs (CO n) := by
 obtain ⟨n, rfl, _, hn⟩ := DataW.trod_int ht h
 exact ⟨n, .cons (.int (by rw [CL]; simpa [Lit.wf, IntKind.min, IntKind.max, IntKind.signed, IntKind.bits] using hn)) .nil⟩
theorem Kv {t : TypeId} (ht : P.underlying t = some (.int .i64)) {r : Reach} {b0 : Nat} {v : Value} {d : DataW H} {p : List MemPlace} (hv : Value.okWide P W r b0 t v) (h : DataW.Trod enc P W base sp hd t v d p) : ∃ n : Int, AL (sto W) noS noH v (AR n) := by
 obtain ⟨n, rfl⟩ := okWide_int ht hv
 obtain ⟨fuel, hf⟩ := h
 obtain ⟨m, hm⟩ := I3 ht fuel _ _ hf
 have : AP (Aa (sto W)) [.int .i64 n] (CO m) := hm
 cases this with
 | cons h1 h2 => exact ⟨m, .one (.st h1)⟩
theorem MB {α : Type} {e0 : α → List SV} {t e : TypeId} {k : Nat} (ht : P.underlying t = some (.slice e)) (hc : P.cellsOf e = k) (hlen : ∀ a, (e0 a).length = k) (hk : 0 < k) {r : Reach} {b0 : Nat} {v : Value} {d : DataW H} {p : List MemPlace} (hv : Value.okWide P W r b0 t v)
  (f : ∀ (n : Nat) (cs : List Value) (y : DataW H × List MemPlace), DataW.trod enc P W base sp hd n e cs = some y → ∃ a : α, AP (Aa (sto W)) cs (e0 a)) (h : DataW.Trod enc P W base sp hd t v d p) (hs : BH = true → k < 2 := by decide) : ∃ xs : List α, AL (sto W) noS noH v (.one (.st (.list (xs.map e0)))) := by
 obtain ⟨a, len, cap, rfl⟩ := okWide_slice ht hv
 obtain ⟨fuel, hf⟩ := h
 obtain ⟨xs, hxs⟩ := IA ht hc hlen hk (fun n cs y _ hy => f n cs y hy) hf hs
 have : AP (Aa (sto W)) [.slice a len cap] [.list (xs.map e0)] := hxs
 cases this with
 | cons h1 h2 => exact ⟨xs, .one (.st h1)⟩
end
theorem Jw {σ : Sto} (h : Im = [] := by rfl) : BZ σ := fun x hx => by simp [h] at hx
theorem IW {P : Program} {f : FuncId} {xs : List AV} {b : Bool} (h : Ac P f xs (BX b)) {σ : Sto} {w : World} {vs : List Value} (hg : BZ σ) (hf : Fit σ w) (hv : AP (AL σ noS noH) vs xs) :
  Calls P f vs.toArray w fun e w' => e = .returned (.bool b) ∧ Below w.heap.size w w' := (h σ w vs hg hf hv).mono fun e w' ⟨v, σ', he, hv, _, _, hb⟩ => by
 rw [B3 hv] at he
 exact ⟨he, hb⟩

section
variable {H : Type} {enc : TypeId × Value → H} {W : World} {sp : Nat → Bool} {hd : Bool} {base : Nat}
set_option maxRecDepth 100000 in
theorem Mo {r : Reach} {b0 : Nat} {v : Value} {d : DataW H} {p : List MemPlace} (hv : Value.okWide Try.prog W r b0 23 v) (h : DataW.Trod enc Try.prog W base sp hd 23 v d p) : ∃ l : List Int, AL (sto W) noS noH v (Cw l) :=
 MB (k := 1) Try.underlying23 (by kernel_rfl) (fun _ => rfl) (by decide) hv (I3 Try.underlying3) h
end

end Go.Proofs.Ytbknconogoegaaa
namespace Go.Proofs.Ytbknconogoegaaa.topSome
open Go Go.RowKit Go.ChangeShapes Go.WideShapes Go.ChangeAt
set_option linter.unusedVariables false
theorem own : ownKnob Try.prog.godebug = none := by kernel_rfl
theorem Oq : laidOutB Try.prog = true := by kernel_rfl
set_option maxRecDepth 100000 in
theorem M5 (H : Type) (enc : TypeId × Value → H) (W : World) (base : Nat) (args : Array Value) (ds gs : List (DataW H)) (before : List MemPlace)
  (hval : ∀ (j : Nat) t v, Try.f4.params[j]? = some t → args[j]? = some v → Value.okWide Try.prog W .any base t v)
  (hW : DataW.Whole enc Try.prog Try.f4.params.toList Rows.topSomeSpec.vars false W args.toList ds gs before) :
  Calls Try.prog 4 args W fun e W' => ∃ v, e = .returned v ∧ Rows.topSomeSpec.post enc Try.prog Try.f4 false true false false W args v W' := by
 obtain ⟨p, q, hA0, hV, rfl, hfz, hnd⟩ := id hW
 obtain ⟨rfl, rfl⟩ := trodVars_none hV
 have hA : DataW.TrodAll enc Try.prog W 0 (fun _ => true) true Try.f4.params.toList args.toList ds p := hA0
 rw [Try.params4] at hA hval
 obtain ⟨v0, v1, v2, d0, d1, d2, p0, p1, p2, hargs, rfl, rfl, h0, h1, h2⟩ := trodAll_three hA
 obtain rfl : args = #[v0, v1, v2] := by cases args; simp_all
 obtain ⟨l, r0⟩ := Mo (hval 0 23 v0 rfl rfl) h0
 obtain ⟨m1, r1⟩ := Kv Try.underlying3 (hval 1 3 v1 rfl rfl) h1
 obtain ⟨m2, r2⟩ := Kv Try.underlying3 (hval 2 3 v2 rfl rfl) h2
 have k0 := KD r0.known
 refine (IW (LK l m1 m2 k0.2 k0.1 r1.known r2.known) Jw (Np W) (vs := [v0, v1, v2]) (.cons r0 (.cons r1 (.cons r2 .nil)))).mono fun e W' ⟨he, hb⟩ => ⟨_, he, ?_⟩
 exact M_ hW rfl rfl Try.underlying4 rfl rfl rfl Oq (by kernel_rfl) hb
set_option maxRecDepth 100000 in
theorem OU (os : Os) (started : os.Started) (H : Type) (enc : TypeId × Value → H) :
  ReturnsInHanded {} Try.checked os 4 .any (Rows.topSomeSpec.pre6 enc Try.prog Try.f4 Rows.topSomeRow.domain false) (Rows.topSomeSpec.post enc Try.prog Try.f4 false true false false) := by
 refine returnsInHanded_of_change (C := Try.checked) own started (by kernel_rfl) Try.func4
  (ChangeSpec.witness6 (enc := enc) (C := Try.checked) false ⟨#[], #[.slice none 0 0, .int .i64 0, .int .i64 0], []⟩ 8 (by kernel_rfl) (by kernel_rfl) (by kernel_rfl) (by kernel_rfl)) ?_
 intro W base args ds gs before hval hW _ _
 exact M5 H enc W base args ds gs before hval hW
theorem proved : Rows.TopSomeSaid :=
 OpenClaim.holds_of_wide 4 Try.f4 rfl rfl rfl rfl rfl rfl rfl ⟨rfl, rfl, rfl, rfl, rfl⟩ rfl rfl rfl rfl rfl (by kernel_rfl) Try.func4 (by kernel_rfl)
  (of_decide_eq_true (by kernel_rfl)) (by unfold Func.isWrapper; first | (rw [if_pos (by decide +kernel)]; kernel_rfl) | (rw [if_neg (by decide +kernel)]; exact ⟨rfl, rfl⟩))
  (fun os started H enc _ => OU os started H enc)

end Go.Proofs.Ytbknconogoegaaa.topSome
