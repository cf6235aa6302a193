/-
  Proved: for every automaton and term, acceptance and the least accepted term are what the document says: the law AutoSays returns true. Conditions: none.
-/
import Derived.Test.YtbknconogoegaaaASA8
import Derived.Test.YtbknconogoegaaaRows
import Derived.ProofKit
import Derived.OpenShut
import Derived.JoinedCond
import Derived.Deep.Slices
namespace Go.Proofs.Ytbknconogoegaaa
open Go Go.RowKit
set_option linter.unusedVariables false
set_option maxHeartbeats 400000
def O0 (P : Program) (f : FuncId) (caps : List AV) (Need : AA → Prop) {α : Type} (encs : α → List AV) (all : List α) : Prop :=
 ∀ (y : Nat) (Inv : List α → AA → Prop) (Jx : AA → Prop) (T : AA), 1000 ≤ y → (∀ pre T, Inv pre T → Need T) →
  (∀ pre v, (pre ++ [v]) <+: all → ∀ T, Inv pre T → GE P (.one (.yld y)) (encs v) T fun r T' => (r = .one (.st (.bool true)) ∧ Inv (pre ++ [v]) T') ∨ (r = .one (.st (.bool false)) ∧ Jx T')) →
  Inv [] T → Ij P f (.one (.yld y) :: caps) T fun _ T' => Inv all T' ∨ Jx T'
def J7 (env : Nat → AV) : List Nat → List AV → Nat → AV
 | p :: ps, v :: vs => J7 (AH env p v) ps vs
 | _, _ => env
section
variable {σ : Sto} {S : AA} {ι : Aj}
theorem IC {n : Nat} : ∀ {ps : List Nat} {vs : List Value} {xs : List AV} {tmps : Array Value} {env : Nat → AV}, AU (AM σ S ι) vs xs → n ≤ tmps.size → (∀ i, i < n → AM σ S ι (tmps.getD i undef) (env i)) →
  n ≤ ((ps.zip vs).foldl (fun t (p, v) => t.setIfInBounds p v) tmps).size ∧ ∀ i, i < n → AM σ S ι (((ps.zip vs).foldl (fun t (p, v) => t.setIfInBounds p v) tmps).getD i undef) (J7 env ps xs i)
 | [], vs, xs, tmps, env, h, hs, he => ⟨hs, he⟩
 | p :: ps, [], [], tmps, env, h, hs, he => ⟨hs, he⟩
 | p :: ps, v :: vs, x :: xs, tmps, env, h, hs, he => by
  cases h with
  | cons h1 h2 =>
   refine IC (ps := ps) h2 (by simpa using hs) fun i hi => ?_
   unfold AH
   by_cases e : i = p
   ·subst e
    rw [if_pos rfl, Array.getD_eq_getD_getElem?, Array.getElem?_setIfInBounds_self_of_lt (by omega)]
    exact h1
   ·rw [if_neg e, Array.getD_eq_getD_getElem?, Array.getElem?_setIfInBounds_ne (fun h => e h.symm), ← Array.getD_eq_getD_getElem?]
    exact he i hi
end
section
variable {P : Program} {C : Ctx} {mu : List Nat} {Q : AX → AS → Prop} {s : AS} {x y : IR} {σ : Sto} {ι : Aj} {a : Act} {w : World}
theorem AL.upped (R : AL C σ ι s a w) : ∃ ι1 : Aj, (∀ i, ι1 (up1 i) = ι i) ∧ Dl σ (upS s.S) ι1 w ∧ (∀ v c, AM σ s.S ι v c → AM σ (upS s.S) ι1 v (c.ren up1)) ∧
  ∀ {Post : AV → AA → Prop} {e : Ending} {w' : World}, Nh σ (upS s.S) ι1 w Post e w' → ∃ v r S' σ' ι2, e = .returned v ∧ Post r S' ∧ An S' ∧ Upd s.S ι (dnS S') ι2 ∧ AL C σ' ι2 ⟨s.env, dnS S'⟩ a w' := by
 have hup : ∀ i, dn1 (up1 i) = i := Gy
 have hS : ∀ i b, s.S i = some b → upS s.S (up1 i) = some (b.ren up1) := fun i b hb => Di hb
 obtain ⟨ι1, hι1⟩ : ∃ ι1 : Aj, ∀ i, ι1 i = ι (dn1 i) := ⟨fun i => ι (dn1 i), fun _ => rfl⟩
 have hι : ∀ i b, s.S i = some b → ι1 (up1 i) = ι i := fun i b _ => by rw [hι1, hup]
 have hown : Dl σ (upS s.S) ι1 w := by
  refine ⟨fun id b hb => ?_, fun id id' b b' g h1 h2 g1 g2 => ?_⟩
  ·obtain ⟨hle, b', h1, rfl⟩ := Co hb
   have := BL.ren (S2 := upS s.S) (ι2 := ι1) (ρ := up1) hS hι (R.blk _ _ h1)
   rw [hι1]
   exact this
  ·obtain ⟨l1, c1, k1, _⟩ := Co h1
   obtain ⟨l2, c2, k2, _⟩ := Co h2
   rw [hι1] at g1 g2
   have := R.inj _ _ _ _ g k1 k2 g1 g2
   rw [← Gk l1, ← Gk l2, this]
 refine ⟨ι1, fun i => by rw [hι1, hup], hown, fun v c hv => AM.ren (S2 := upS s.S) (ι2 := ι1) (ρ := up1) hS hι hv, fun {Post e w'} he => ?_⟩
 obtain ⟨v, r, S', σ', ι', rfl, hP, hclean, hupd, hown', hv, hf', hkeep, hold, hos, hsz, hsame, hbase⟩ := he
 have hSd : ∀ i b, S' i = some b → dnS S' (dn1 i) = some (b.ren dn1) := fun i b hb => G4 (hclean i b hb).1 hb
 obtain ⟨ι2, hι2⟩ : ∃ ι2 : Aj, ∀ i, ι2 i = ι' (up1 i) := ⟨fun i => ι' (up1 i), fun _ => rfl⟩
 have hιd : ∀ i b, S' i = some b → ι2 (dn1 i) = ι' i := fun i b hb => by
  rw [hι2, Gk (hclean i b hb).1]
 have hu : Upd s.S ι (dnS S') ι2 := fun id b hb => by
  obtain ⟨b', h1, h2, h3⟩ := hupd _ _ (hS id b hb)
  have h4 := hSd _ _ h1
  rw [hup] at h4
  refine ⟨_, h4, by rw [BD] at h2 ⊢; exact h2, fun hl => ?_⟩
  rw [BD] at hl
  obtain ⟨q1, q2⟩ := h3 (by rw [BD]; exact hl)
  refine ⟨by rw [GA] at q1 ⊢; exact q1, ?_⟩
  rw [hι2, q2, hι1, hup]
 have hnot : ∀ g, g < C.N → ¬ C.G g → Bs (upS s.S) ι1 g := fun g h1 h2 id b hb hg => by
  obtain ⟨_, b', k1, _⟩ := Co hb
  rw [hι1] at hg
  rcases R.base _ _ g k1 hg with h | h
  ·omega
  ·exact h2 h
 refine ⟨v, r, S', σ', ι2, rfl, hP, hclean, hu, ?_⟩
 refine ⟨R.size, fun i hi => (R.env i hi).mono hkeep hu, R.nod.mono (fun D h => (hsame D (Array.getElem?_eq_some_iff.1 h).1 (DB hown.1 h)).trans h), hf', fun id b hb => ?_, fun id id' b b' g h1 h2 g1 g2 => ?_, fun id b g hb hg => ?_, fun p x hx => hkeep _ _ (R.ext p x hx), fun p h1 h2 => ?_, ⟨hos.1.trans R.os.1, hos.2.1.trans R.os.2.1, hos.2.2.trans R.os.2.2⟩, ⟨Nat.le_trans R.grown.1 hsz, Nat.le_trans R.grown.2 hsz⟩, fun g h1 h2 => ?_, R.upd.trans hu⟩
 ·obtain ⟨b', h1, rfl⟩ := Cq hb
  have := BL.ren (S2 := dnS S') (ι2 := ι2) (ρ := dn1) hSd hιd (hown'.1 _ _ h1)
  rw [hι2]
  exact this
 ·obtain ⟨c1, k1, _⟩ := Cq h1
  obtain ⟨c2, k2, _⟩ := Cq h2
  rw [hι2] at g1 g2
  have := congrArg dn1 (hown'.2 _ _ _ _ g k1 k2 g1 g2)
  rw [hup, hup] at this
  exact this
 ·obtain ⟨b', h1, _⟩ := Cq hb
  rw [hι2] at hg
  rcases hbase _ _ g h1 hg with h2 | h2
  ·exact .inl (by have := R.grown.1; omega)
  ·by_cases hN : g < C.N
   ·by_cases hG : C.G g
    ·exact .inr hG
    ·exact absurd (hnot g hN hG) h2
   ·exact .inl (by omega)
 ·exact (hold p (by have := R.grown.1; omega) (hnot _ h1 h2)).trans (R.old p h1 h2)
 ·exact (hsame g (by have := R.grown.1; omega) (hnot g h1 h2)).trans (R.same g h1 h2)
theorem AL.setLoop (R : AL C σ ι s a w) {id l : Nat} {env : List AV} {r : Loop} (r' : Loop) (hS : s.S id = some (.loop env r)) (hl : (ι id).g = some l) (hr : r'.tmps = r.tmps) : w.heap[l]? = some (.loop r) ∧ ∃ ι', AL C σ ι' (s.set id (.loop env r')) a (w.putObj l (.loop r')) ∧ Upd s.S ι (s.set id (.loop env r')).S ι' := by
 have hb := R.blk id _ hS
 cases hb with
 | loop h1 h2 h3 h4 h5 =>
  rw [hl] at h1
  cases h1
  exact ⟨h2, R.setBlk (o' := .loop r') hS hl h2 h5 rfl rfl fun S' ι' hu => .loop hl (CK h2).1 (by rw [hr]; exact h3) (fun j a ha => by rw [hr]; exact (h4 j a ha).mono (fun _ _ h => h) hu) h5⟩
def NC (C : Ctx) (y : Nat) (b : AJ) (N : AA → Prop) (Jx : AX → AA → Prop) (e : AX) (s : AS) : Prop := ∃ s2 U, Ad C s s2 ∧ s2.S = AH U y (some b) ∧ An s2.S ∧ U y = none ∧ match e with
 | .normal => N U
 | .ret => Jx .ret U
 | .exit i => Jx (.exit i) U
 | .pan _ => False
theorem DM {C : Ctx} {σ0 : Sto} {T : AA} {ι0 : Aj} {w0 : World} (hC : C.N = w0.heap.size) (hw : C.w0 = w0) (hσ : C.σ0 = σ0) (hG : ∀ g, C.G g ↔ ¬ Bs T ι0 g) (hS0 : C.S0 = T) (hι0 : C.ι0 = ι0) (R : AL C σ ι s a w) (hc : An s.S) {Post : AV → AA → Prop} {b : Bool} (hP : Post (.one (.st (.bool b))) s.S) : Nh σ0 T ι0 w0 Post (.returned (.bool b)) w := by
 have hupd := R.upd
 rw [hS0, hι0] at hupd
 subst hσ hw
 exact ⟨.bool b, _, s.S, σ, ι, rfl, hP, hc, hupd, ⟨R.blk, R.inj⟩, .one (.st .bool), R.fit, R.ext, fun p h1 h2 => R.old p (by rw [hC]; exact h1) (fun h => (hG _).1 h h2), R.os, R.grown.2, fun g h1 h2 => R.same g (by rw [hC]; exact h1) (fun h => (hG _).1 h h2), fun id b g h1 h2 => (R.base id b g h1 h2).imp (fun h => by rw [← hC]; exact h) fun h => (hG _).1 h⟩
theorem Lw {S : AA} {i : Nat} {b c : Option AJ} : AH (AH S i b) i c = AH S i c := by
 funext j
 unfold AH
 split <;> rfl
inductive Ns : Code → AX → Prop
 | ret : Ns .ret .ret
 | exit (i : Nat) : Ns (.exit i) (.exit i)
theorem M2 {fn : FuncId} {ps : Array Tmp} {ca cb : Code} {D : Nat} {n : Nat} {env : List AV} {tmps : Array Value} (hx : Aw P n mu ca = some x) (hy : Aw P n mu cb = some y) (hn : env.length = n) {yb : Nat} (hyb : 1000 ≤ yb) {rec : LoopState → Option Code → Loop} (hrec : rec = fun st pe => { state := st, pending := pe, fn, tmps, params := ps, assign := ca, body := cb, defers := D }) {vs : List AV} (hps : vs.length = ps.size)
  {U : AA} (hU : U yb = none) {N : AA → Prop} {Jx : AX → AA → Prop}
  (h : An (AH U yb (some (.loop env (rec .ready none)))) → ∀ C' : Ctx, C'.n = n → IWP P C' mu x (AX.then (fun s1 => s1.S yb = some (.loop env (rec .ready none)) ∧ IWP P C' mu y (NC C' yb (.loop env (rec .busy none)) N Jx) (s1.set yb (.loop env (rec .busy none)))) fun _ _ => False) ⟨J7 (fun i => (env[i]?).getD .any) ps.toList vs, AH U yb (some (.loop env (rec .ready none)))⟩) :
  GE P (.one (.yld yb)) vs (AH U yb (some (.loop env (rec .ready none)))) fun r T' => (r = .one (.st (.bool true)) ∧ ∃ U', T' = AH U' yb (some (.loop env (rec .ready none))) ∧ U' yb = none ∧ N U') ∨
   (r = .one (.st (.bool false)) ∧ ∃ U' c e, T' = AH U' yb (some (.loop env (rec .done (some c)))) ∧ U' yb = none ∧ Ns c e ∧ Jx e U') := by
 intro hclean σ w vy xs ι hglob hfit hown hvy hxs
 obtain ⟨T, hT⟩ : ∃ T, AH U yb (some (.loop env (rec .ready none))) = T := ⟨_, rfl⟩
 have hTy : T yb = some (.loop env (rec .ready none)) := by rw [← hT]; exact AD _ _ _
 rw [hT] at hclean hown hvy hxs h ⊢
 have hhigh := (hclean _ _ hTy).2
 have hb := hown.1 _ _ hTy
 obtain ⟨l, hl, rfl⟩ : ∃ l, (ι yb).g = some l ∧ vy = .func (.yield l) #[] #[] := by
  cases hvy with
  | one hv =>
   cases hv with
   | yld k1 k2 k3 k4 =>
    rw [hTy] at k1
    cases k1
    exact k4 rfl
 have hlen := hxs.len
 cases hb with
 | loop k1 k2 k3 k4 k5 =>
 rw [hl] at k1
 cases k1
 have htm : (rec .ready none).tmps = tmps := by rw [hrec]
 refine ⟨l, rfl, fun ro => ⟨fn, _, ca, cb, by
  have := run_yield (P := P) (args := xs.toArray) k2 (by rw [hrec]; simp; omega)
  rw [hrec] at this
  exact this, ?_⟩⟩
 let C' : Ctx := ⟨n, w.heap.size, fun g => ¬ Bs T ι g, σ, w, T, ι, hclean, hglob, [], some l, false⟩
 have hset := IC (σ := σ) (S := T) (ι := ι) (n := n) (ps := ps.toList) (env := fun i => (env[i]?).getD .any) (tmps := tmps) hxs (by rw [htm] at k3; omega) fun i hi => by
  have hi' : i < env.length := by omega
  have := k4 i _ (List.getElem?_eq_getElem hi')
  rw [htm] at this
  simpa [hi'] using this
 have hfold : (ps.zip xs.toArray).foldl (fun t (p, v) => t.setIfInBounds p v) tmps = (ps.toList.zip xs).foldl (fun t (p, v) => t.setIfInBounds p v) tmps := by
  rw [← Array.foldl_toList, Array.toList_zip]
 have R0 : AL C' σ ι ⟨J7 (fun i => (env[i]?).getD .any) ps.toList vs, T⟩ { tmps := (ps.zip xs.toArray).foldl (fun t (p, v) => t.setIfInBounds p v) tmps, defers := [] } w := by
  refine ⟨?_, fun i hi => ?_, Dx, hfit, hown.1, hown.2, fun id b g h hg => .inr (fun hno => hno id b h hg), fun _ _ h => h, fun _ _ _ => rfl, ⟨rfl, rfl, rfl⟩, ⟨Nat.le_refl _, Nat.le_refl _⟩, fun _ _ _ => rfl, Upd.refl _ _⟩
  ·dsimp only
   rw [hfold]
   exact hset.1
  ·dsimp only
   rw [hfold]
   exact hset.2 i hi
 refine roundIn_of_wpIn (F := fen ro) (n := 0) trivial (wpIn_mono (h hclean C' rfl ca hx _ w ⟨σ, ι, R0⟩) fun e a1 w1 he => ?_)
 have same : ∀ {σ1 : Sto} {ι1 : Aj} {s1 : AS} {a1 : Act} {w1 : World} {b : AJ}, AL C' σ1 ι1 s1 a1 w1 → s1.S yb = some b → b.len = 1 → (ι1 yb).g = some l := fun R1 hs hl1 => by
  obtain ⟨b', h1, h2, h3⟩ := R1.upd yb _ hTy
  rw [hs] at h1
  cases h1
  rw [(h3 hl1).2]
  exact hl
 cases e with
 | normal =>
  obtain ⟨s1, ⟨h1, h2⟩, σ1, ι1, R1⟩ := he
  obtain ⟨q1, ι2, R2, _⟩ := R1.setLoop (rec .busy none) h1 (same R1 h1 rfl) (by rw [hrec])
  refine ⟨_, by
   have := run_beginRound (P := P) q1 (by rw [hrec])
   rw [hrec] at this
   exact this, ?_⟩
  have e1 : (w1.putObj l (.loop (rec .busy none))) = w1.putObj l (.loop { state := .busy, pending := none, fn, tmps, params := ps, assign := ca, body := cb, defers := D }) := by rw [hrec]
  rw [← e1]
  refine wpIn_mono (h2 cb hy _ _ ⟨σ1, ι2, R2⟩) fun e3 a3 w3 he3 => ?_
  have fin : ∀ (jump : Option Code) (s3 s4 : AS) (U2 : AA), Ad C' s3 s4 → s4.S = AH U2 yb (some (.loop env (rec .busy none))) → An s4.S → Ax C' s3 a3 w3 →
    ∃ σ5 ι5 s5, (Instr.endRound l jump).run P w3 = .ok (.bool jump.isNone) (w3.putObj l (.loop (rec (if jump.isNone then .ready else .done) jump))) ∧ s5.S = AH U2 yb (some (.loop env (rec (if jump.isNone then .ready else .done) jump))) ∧ An s5.S ∧ AL C' σ5 ι5 s5 a3 (w3.putObj l (.loop (rec (if jump.isNone then .ready else .done) jump))) := fun jump s3 s4 U2 hg hS hc hH => by
   obtain ⟨σ4, ι4, R4⟩ := hg _ _ hH
   have h4 : s4.S yb = some (.loop env (rec .busy none)) := by rw [hS]; exact AD _ _ _
   obtain ⟨q2, ι5, R5, _⟩ := R4.setLoop (rec (if jump.isNone then .ready else .done) jump) h4 (same R4 h4 rfl) (by rw [hrec])
   refine ⟨σ4, ι5, _, ?_, ?_, ?_, R5⟩
   ·have := run_endRound (P := P) jump q2
    rw [hrec] at this ⊢
    exact this
   ·show AH s4.S yb _ = _
    rw [hS, Lw]
   ·exact B8 hc hyb hhigh
  cases e3 with
  | normal =>
   obtain ⟨s3, ⟨s4, U2, g1, g2, g3, g4, g5⟩, hH⟩ := he3
   obtain ⟨σ5, ι5, s5, f1, f2, f3, R5⟩ := fin none s3 s4 U2 g1 g2 g3 hH
   exact ⟨_, _, f1, DM (C := C') rfl rfl rfl (fun g => Iff.rfl) rfl rfl R5 f3 (.inl ⟨rfl, U2, f2, g4, g5⟩)⟩
  | ret =>
   obtain ⟨s3, ⟨s4, U2, g1, g2, g3, g4, g5⟩, hH⟩ := he3
   obtain ⟨σ5, ι5, s5, f1, f2, f3, R5⟩ := fin (some .ret) s3 s4 U2 g1 g2 g3 hH
   exact ⟨_, _, f1, DM (C := C') rfl rfl rfl (fun g => Iff.rfl) rfl rfl R5 f3 (.inr ⟨rfl, U2, _, _, f2, g4, .ret, g5⟩)⟩
  | exit i =>
   obtain ⟨s3, ⟨s4, U2, g1, g2, g3, g4, g5⟩, hH⟩ := he3
   obtain ⟨σ5, ι5, s5, f1, f2, f3, R5⟩ := fin (some (.exit i)) s3 s4 U2 g1 g2 g3 hH
   exact ⟨_, _, f1, DM (C := C') rfl rfl rfl (fun g => Iff.rfl) rfl rfl R5 f3 (.inr ⟨rfl, U2, _, _, f2, g4, .exit i, g5⟩)⟩
  | panic ch => obtain ⟨s3, v, ⟨⟨s4, U2, g1, g2, g3, g4, g5⟩, _⟩, _⟩ := he3; exact g5.elim
  | _ => exact he3.elim
 | panic ch => obtain ⟨s1, v, h1, h2⟩ := he; exact h1.1.elim
 | ret => obtain ⟨s1, h1, h2⟩ := he; exact h1.elim
 | exit i => obtain ⟨s1, h1, h2⟩ := he; exact h1.elim
 | _ => exact he.elim
def B0 (n : Nat) (env : Nat → AV) : List AV := (List.range n).map env
theorem Ho {n : Nat} {env : Nat → AV} : (B0 n env).length = n := by simp [B0]
theorem Mp {n i : Nat} {env : Nat → AV} {a : AV} (h : (B0 n env)[i]? = some a) : i < n ∧ a = env i := by
 unfold B0 at h
 rw [List.getElem?_map, Option.map_eq_some_iff] at h
 obtain ⟨j, h1, h2⟩ := h
 obtain ⟨h3, h4⟩ := List.getElem?_eq_some_iff.1 h1
 simp at h3 h4
 subst h4
 exact ⟨h3, h2.symm⟩
theorem HN {n : Nat} {c : Code} {g : Opd} {ps : List Nat} (h : Aw P n mu c = some (.rangeF g ps x y)) : ∃ g' ps' ca cb, c = .rangeFunc g' ps' ca cb ∧ AI n g' = some g ∧ ps'.toList = ps ∧ Aw P n mu ca = some x ∧ Aw P n mu cb = some y := by
 cases c <;> simp only [Aw] at h
 case rangeFunc g' ps' ca cb =>
  split at h
  ·rename_i e1 e2 e3
   split at h
   ·cases h
    exact ⟨_, _, _, _, rfl, e1, rfl, e2, e3⟩
   ·cases h
  ·cases h
 all_goals (exfalso; revert h; (repeat' split) <;> simp)
theorem OP {U : AA} {id : Nat} {b c : Option AJ} : AH (dnS (AH U (up1 id) b)) id c = AH (dnS U) id c := by
 funext j
 unfold AH
 by_cases e : j = id
 ·rw [if_pos e, if_pos e]
 ·rw [if_neg e, if_neg e]
  show (if j + 1000 = up1 id then b else U (j + 1000)).map (AJ.ren dn1) = (U (j + 1000)).map (AJ.ren dn1)
  rw [if_neg (show ¬ j + 1000 = up1 id by unfold up1; omega)]
theorem L_ {U : AA} {i : Nat} {b : AJ} (h : An (AH U i (some b))) (hU : U i = none) : An U := fun j c hc => h j c (by
 rw [AK _ (fun e => by rw [e, hU] at hc; cases hc)]
 exact hc)
def MR (n : Nat) (env : Nat → AV) : Nat → AV := fun i => if i < n then (env i).ren up1 else .any
theorem NB {n : Nat} {env : Nat → AV} : (fun i => ((AV.rens up1 (B0 n env))[i]?).getD .any) = MR n env := by
 funext i
 unfold MR B0
 rw [AV.rens_eq, List.map_map, List.getElem?_map]
 by_cases h : i < n
 ·rw [if_pos h, List.getElem?_range h]
  rfl
 ·rw [if_neg h, List.getElem?_eq_none (by simp; omega)]
  rfl
theorem IWP.rangeF {g : Opd} {ps : List Nat} (htop : C.Top) (id : Nat) (hid : id < 1000) (hfree : s.S id = none) {f : Nat} {caps : List AC} (hg : s.ev g = .one (.fn f caps)) (hpl : B2 P f = true) {α : Type} {encs : α → List AV} {all : List α} {Need : AA → Prop} (hit : O0 P f (AV.rens up1 (caps.map .one)) Need encs all)
  (hlen : ∀ v, (encs v).length = ps.length) (Inv : List α → AA → Prop) (Jx : AX → AA → Prop) (h0 : Inv [] (upS s.S)) (hneed : ∀ pre U b, Inv pre U → U (up1 id) = none → Need (AH U (up1 id) (some b)))
  (hbody : ∀ (C' : Ctx) (b0 b1 : AJ) (pre : List α) (v : α) (U : AA), C'.n = C.n → (pre ++ [v]) <+: all → Inv pre U → U (up1 id) = none → An U → b1.high = true →
   IWP P C' mu x (AX.then (fun s1 => s1.S (up1 id) = some b0 ∧ IWP P C' mu y (NC C' (up1 id) b1 (Inv (pre ++ [v])) Jx) (s1.set (up1 id) b1)) fun _ _ => False) ⟨J7 (MR C.n s.env) ps (encs v), AH U (up1 id) (some b0)⟩)
  (hdone : ∀ U, Inv all U → Q .normal ⟨s.env, AH (dnS U) id (some (.dead 1 0))⟩) (hjump : ∀ e U, Jx e U → Q e ⟨s.env, AH (dnS U) id (some (.dead 1 0))⟩) : IWP P C mu (.rangeF g ps x y) Q s := fun c hc a w hH => by
 obtain ⟨g', ps', ca, cb, rfl, hg', rfl, hx, hy⟩ := HN hc
 obtain ⟨σ, ι, R⟩ := hH
 have rg := R.ev hg'
 rw [hg] at rg
 replace rg := AP rg
 generalize hev : a.eval g' = fv at rg
 cases rg with
 | @fn _ vc _ cc g1 g2 g3 =>
 refine wpIn_rangeFunc fun fn hfn => ?_
 obtain ⟨rec, hrec⟩ : ∃ rec : LoopState → Option Code → Loop, rec = fun st pe => { state := st, pending := pe, fn, tmps := a.tmps, params := ps', assign := ca, body := cb, defers := w.heap.size } := ⟨_, rfl⟩
 obtain ⟨w1, hw1⟩ : ∃ w1, (w.alloc (.deferred (some []))).alloc (.loop (rec .ready none)) = w1 := ⟨_, rfl⟩
 have hsz : (w.alloc (.deferred (some []))).heap.size = w.heap.size + 1 := World.size_alloc _ _
 have R1 : AL C σ ι s { a with defers := KJ w.heap.size :: a.defers } (w.alloc (.deferred (some []))) := by
  have R' := R.more (w' := w.alloc (.deferred (some []))) (Ext.refl _ _) (R.fit.alloc _) (Cl.alloc _ _)
  refine { R' with nod := ?_ }
  obtain ⟨l, h1, h2, h3, _⟩ := R.nod
  refine ⟨w.heap.size :: l, by show _ :: a.defers = _; rw [h1]; rfl, List.nodup_cons.2 ⟨fun hm => ?_, h2⟩, fun D hD => ?_, fun hm => by rw [htop.2] at hm; cases hm⟩
  ·have := (Array.getElem?_eq_some_iff.1 (h3 _ hm).2).1
   omega
  ·rcases List.mem_cons.1 hD with rfl | hD
   ·exact ⟨R.grown.1, World.alloc_heap_new w _⟩
   ·exact ⟨(h3 D hD).1, (Below.heap_alloc _ _ _ (Array.getElem?_eq_some_iff.1 (h3 D hD).2).1).trans (h3 D hD).2⟩
 have hsize := R.size
 obtain ⟨hu2, R2⟩ := R1.fresh (w' := w1) hfree (.loop (B0 C.n s.env) (rec .ready none)) ⟨none, 0, some (w.heap.size + 1)⟩ (Ext.refl _ _) (by rw [← hw1]; exact R1.fit.alloc _) (by rw [← hw1]; exact Cl.alloc _ _) (fun g hg => by cases hg; omega) (fun S' ι' hu => .loop (g := w.heap.size + 1) rfl (by rw [← hw1, ← hsz]; exact World.alloc_heap_new _ _) (by rw [Ho, hrec]; exact hsize) (fun j b hb => by
   obtain ⟨hj, rfl⟩ := Mp hb
   rw [hrec]
   exact (R.env j hj).mono (fun _ _ h => h) hu) (fun p hp => R1.fit.no (by rw [hsz]; omega)))
 have hl2 : (AH ι id (⟨none, 0, some (w.heap.size + 1)⟩ : Hnd) id).g = some (w.heap.size + 1) := by rw [AD]
 generalize AH ι id (⟨none, 0, some (w.heap.size + 1)⟩ : Hnd) = ι2 at R2 hl2 hu2
 obtain ⟨ι3, hι3, hown, hren, hend⟩ := R2.upped
 have hargs : AU (AM σ (upS (s.set id (.loop (B0 C.n s.env) (rec .ready none))).S) ι3) (.func (.yield (w.heap.size + 1)) #[] #[] :: vc.toList) (.one (.yld (up1 id)) :: AV.rens up1 (caps.map .one)) := by
  have hS2 : (s.set id (.loop (B0 C.n s.env) (rec .ready none))).S id = some (.loop (B0 C.n s.env) (rec .ready none)) := AD _ _ _
  refine .cons (hren _ _ (.one (.yld hS2 (Nat.le_refl _) rfl fun _ => ⟨_, hl2, rfl⟩))) ?_
  rw [AV.rens_eq]
  refine (AU.mono (fun v c h => hren v c h) ?_).map_right
  refine (AU.of_get (R := fun v c => AM σ (s.set id (.loop (B0 C.n s.env) (rec .ready none))).S ι2 v (.one c)) (by simpa using g1) fun j v b hv hb => ?_).map_right
  have e := g2 j b hb
  have e2 : vc.toList[j]? = some (cc j) := by simpa using e
  rw [hv] at e2
  cases e2
  exact .one ((g3 j b hb).mono (fun _ _ h => h) hu2)
 have hcl := HX (s.set id (.loop (B0 C.n s.env) (rec .ready none))).S
 have hTeq : upS (s.set id (.loop (B0 C.n s.env) (rec .ready none))).S = AH (upS s.S) (up1 id) (some (.loop (AV.rens up1 (B0 C.n s.env)) (rec .ready none))) := Ny _ _ _
 have hcall := hit (up1 id) (fun pre T => ∃ U, T = AH U (up1 id) (some (.loop (AV.rens up1 (B0 C.n s.env)) (rec .ready none))) ∧ U (up1 id) = none ∧ Inv pre U)
  (fun T => ∃ U c e, T = AH U (up1 id) (some (.loop (AV.rens up1 (B0 C.n s.env)) (rec .done (some c)))) ∧ U (up1 id) = none ∧ Ns c e ∧ Jx e U)
  _ (BX id) (fun pre T hT => by
   obtain ⟨U, rfl, hU, hI⟩ := hT
   exact hneed pre U _ hI hU) (fun pre v hpre T hT => by
   obtain ⟨U, rfl, hU, hI⟩ := hT
   exact M2 hx hy (by rw [AV.rens_eq, List.length_map, Ho]) (BX id) hrec (by rw [hlen]; simp) hU fun hc C' hC' => by
    rw [NB]
    exact hbody C' _ (.loop (AV.rens up1 (B0 C.n s.env)) (rec .busy none)) pre v U hC' hpre hI hU (L_ hc hU) (AV.rens_high _))
  ⟨_, hTeq, by rw [Ce, hfree]; rfl, h0⟩ hcl σ w1 _ ι3 (C.glob.mono R.ext) R2.fit hown hargs
 refine ⟨w.heap.size + 1, [KJ w.heap.size], w1, { target := .fn (.func f) vc, args := #[.func (.yield (w.heap.size + 1)) #[] #[]] }, w1, f, #[.func (.yield (w.heap.size + 1)) #[] #[]] ++ vc, w1, ?_, ?_, fun _ _ => trivial, ?_, fun h => by simp [fen, Fence.wide] at h, ?_⟩
 ·have hr : (fen C.ro).round = none := htop.1
  rw [hr, ← hw1, hrec]
  exact run_enterLoop_outer _ _ _ _ _
 ·simp only [resolve, hev]
  simp [go_sem]
 ·have := Cb (P := P) (w := w1) (args := #[.func (.yield (w.heap.size + 1)) #[] #[]] ++ vc) hpl
  simp [invoke, go_sem, this]
 ·have he0 : (Value.func (.yield (w.heap.size + 1)) #[] #[] :: vc.toList).toArray = #[.func (.yield (w.heap.size + 1)) #[] #[]] ++ vc := by
   apply Array.ext'
   simp
  rw [he0] at hcall
  refine Ft (hcall.mono fun e w2 he => ?_)
  obtain ⟨v, r, S', σ', ι4, rfl, hP, hS', hu4, R4⟩ := hend he
  have hl4 : ∀ {b : AJ}, dnS S' id = some b → b.len = 1 → (ι4 id).g = some (w.heap.size + 1) := fun hb hb1 => by
   obtain ⟨b', h1, h2, h3⟩ := hu4 id _ (show (s.set id (.loop (B0 C.n s.env) (rec .ready none))).S id = some _ from AD _ _ _)
   rw [hb] at h1
   cases h1
   rw [(h3 hb1).2]
   exact hl2
  have fin : ∀ (U : AA) (env : List AV) (st : LoopState) (pe : Option Code), st ≠ .busy → S' = AH U (up1 id) (some (.loop env (rec st pe))) → ∃ w3, (Instr.endLoop (w.heap.size + 1)).run P w2 = .ok pe w3 ∧ Ax C ⟨s.env, AH (dnS U) id (some (.dead 1 0))⟩ { a with defers := KJ w.heap.size :: a.defers } w3 := fun U env st pe hst hS => by
   have hb : dnS S' id = some (.loop (AV.rens dn1 env) (rec st pe)) := by
    have := G4 (BX id) (show S' (up1 id) = some (.loop env (rec st pe)) by rw [hS]; exact AD _ _ _)
    rw [Gy] at this
    exact this
   have hg4 := hl4 hb rfl
   cases hbr : R4.blk id _ hb with
   | loop k1 k2 k3 k4 k5 =>
    rw [hg4] at k1
    cases k1
    obtain ⟨ι5, R5, _⟩ := R4.setBlk (b' := .dead 1 0) (o' := .loop { rec st pe with state := .exhausted }) hb hg4 k2 k5 rfl rfl fun S'' ι'' hu => .dead fun g' hg' => by
     rw [hg4] at hg'
     cases hg'
     exact ⟨_, (CK k2).1, rfl⟩
    refine ⟨w2.putObj (w.heap.size + 1) (.loop { rec st pe with state := .exhausted }), ?_, σ', ι5, ?_⟩
    ·have := run_endLoop (P := P) k2 (by rw [hrec]; exact hst)
     rw [hrec] at this ⊢
     exact this
    ·have e5 : (AS.set ⟨(s.set id (.loop (B0 C.n s.env) (rec .ready none))).env, dnS S'⟩ id (.dead 1 0)) = ⟨s.env, AH (dnS U) id (some (.dead 1 0))⟩ := by
      show AS.mk s.env (AH (dnS S') id _) = _
      rw [hS, OP]
     rw [← e5]
     exact R5
  rcases hP with ⟨U, h1, h2, h3⟩ | ⟨U, c, e, h1, h2, h3, h4⟩
  ·obtain ⟨w3, f1, f2⟩ := fin U _ .ready none (by simp) h1
   exact ⟨none, w3, f1, _, hdone U h3, f2⟩
  ·obtain ⟨w3, f1, f2⟩ := fin U _ .done (some c) (by simp) h1
   refine ⟨some c, w3, f1, ?_⟩
   cases h3 with
   | ret => exact wpIn_ret ⟨_, hjump _ U h4, f2⟩
   | exit i => exact wpIn_exit ⟨_, hjump _ U h4, f2⟩
end

set_option linter.unusedSimpArgs false
set_option maxHeartbeats 1000000
section
variable {C : Ctx} {s : AS}
theorem Ad.ice (t : Nat) {id : Nat} {e : TypeId} {cs : List AC} {xs : List SV} (hS : s.S id = some (.box e cs)) (hc : stCs s.S cs = some xs) (ht : s.env t = .one (.ptr id 1 0 0)) (hn : t < C.n) : Ad C s ⟨AH s.env t (.one (.eptr xs)), AH s.S id (some (.dead 1 0))⟩ := fun a w ⟨σ, ι, R⟩ => by
 have hb := R.blk _ _ hS
 cases hb with
 | @box _ _ g vs h1 h2 h3 h4 h5 =>
  have hsc := R.stCs h4 hc
  have hkeep := D8 (σ := σ) (w' := w) (g := g) (k := vs.size) (fun p x ep hx => by rw [h5 _ ep] at hx; cases hx)
  obtain ⟨hu, R'⟩ := R.turn (w' := w) hS (.dead 1 0) (ι id) (σ' := Ck σ w g vs.size) hkeep (fun p hp _ => Dm (fun e => hp (by rw [e]; exact h1))) (Cz R.fit) (Nat.le_refl _) (fun _ => ⟨rfl, rfl⟩) ⟨rfl, rfl, rfl⟩ (Nat.le_refl _) (fun _ _ _ => rfl) (fun g h => .inl h) (fun hu => .dead fun g' hg' => ⟨_, (by rw [h1] at hg'; cases hg'; exact h3), rfl⟩)
  refine ⟨_, _, { R' with env := fun i hi => ?_ }⟩
  show AM _ _ _ _ (AH s.env t _ i)
  unfold AH
  split
  ·rename_i hit
   subst hit
   have := R.env i hi
   rw [ht] at this
   have hv := AP this
   generalize a.tmps.getD i undef = v at hv
   cases hv with
   | ptr k1 k2 k3 k4 =>
    rw [hS] at k1
    cases k1
    obtain ⟨g', q1, q2⟩ := k4 rfl
    rw [h1] at q1
    cases q1
    rw [q2]
    have key : ∀ j x, xs[j]? = some x → ∃ v, vs[j]? = some v ∧ Ae σ v x := fun j x hx => by
     obtain ⟨v, v1, v2⟩ := hsc.get hx
     exact ⟨v, by simpa using v1, v2⟩
    have hlen : vs.size = xs.length := by simpa using hsc.len
    refine .one (.eptr (o := 0) (fun j => (vs[j]?).getD undef) (fun j x hx => ?_) (fun j x hx => ?_) (fun _ q => ?_))
    ·obtain ⟨v, v1, v2⟩ := key j x hx
     have hj : j < vs.size := (Array.getElem?_eq_some_iff.1 v1).1
     rw [Nat.zero_add, Ic hj, cell_of_row w g _ _ _ _ h3]
     simp [v1]
    ·obtain ⟨v, v1, v2⟩ := key j x hx
     rw [v1]
     exact v2.mono hkeep
    ·rw [FO (by omega), D2 h3]
  ·exact R'.env i hi
end

theorem Ad.toRef {C : Ctx} {s : AS} (t : Nat) {cs : List SV} (ht : s.env t = .one (.eptr cs)) (hn : t < C.n) : Ad C s ⟨AH s.env t (.one (.st (.ref cs))), s.S⟩ := fun a w ⟨σ, ι, R⟩ => by
 have hv := R.env t hn
 rw [ht] at hv
 refine ⟨σ, ι, { R with env := fun i hi => ?_ }⟩
 show AM σ s.S ι _ (AH s.env t _ i)
 by_cases hi' : i = t
 ·subst hi'
  rw [AD]
  exact .one (.st (Nl (AP hv)))
 ·rw [AK _ hi']
  exact R.env i hi

section
variable {C : Ctx} {s : AS}
theorem Ad.ownCM (id j nid : Nat) (e : TypeId) (wd : Nat) {ty : TypeId} {cs : List AC} (hb : s.S id = some (.box ty cs)) (hc : cs[j]? = some (.full [])) (hn : s.S nid = none) :
  Ad C s ((s.set nid (.mrow e wd [])).set id (.box ty (cs.set j (.row nid 0)))) := fun a w ⟨σ, ι, R⟩ => by
 have hbk := R.blk id _ hb
 have hne : id ≠ nid := fun e => by subst e; rw [hb] at hn; cases hn
 cases hbk with
 | @box _ _ g vs h1 h2 h3 h4 h5 =>
  obtain ⟨v, hv, hr⟩ := h4.get hc
  cases hr with
  | @full p len _ hs =>
   have hl : len = 0 := by
    obtain ⟨p', cap', e1, _⟩ := Bk hs
    cases e1
    rfl
   subst hl
   obtain ⟨hu, R'⟩ := R.fresh (w' := w) hn (.mrow e wd []) ⟨p, 0, none⟩ (Ext.refl _ _) R.fit (Below.refl _ _) (by simp) (fun S' ι' hu => .mnil rfl rfl)
   have hb' : (s.set nid (.mrow e wd [])).S id = some (.box ty cs) := by simp [AS.set, AK _ hne, hb]
   have hι : AH ι nid ⟨p, 0, none⟩ id = ι id := AK _ hne _
   obtain ⟨hu2, R2⟩ := R'.turn (w' := w) hb' (.box ty (cs.set j (.row nid 0))) (AH ι nid ⟨p, 0, none⟩ id) (σ' := σ) (fun _ _ h => h) (fun _ _ _ => rfl) R.fit (Nat.le_refl _) (fun _ => ⟨by simp [AJ.wid], rfl⟩) ⟨rfl, rfl, rfl⟩ (Nat.le_refl _) (fun _ _ _ => rfl) (fun g h => .inl h) (fun hu2 => by
    refine .box (by rw [hι]; exact h1) (by rw [hι]; exact h2) h3 (AU.of_get (by rw [List.length_set]; exact h4.len) fun k u c hu' hck => ?_) h5
    by_cases hk : k = j
    ·subst hk
     rw [hv] at hu'
     cases hu'
     have hlt : k < cs.length := (List.getElem?_eq_some_iff.1 hc).1
     rw [List.getElem?_set_self hlt] at hck
     cases hck
     exact .row (b := .mrow e wd []) (by simp [AS.set, AH, hne.symm]) (Nat.le_refl _) rfl fun _ => by simp [AH, hne.symm]
    ·rw [List.getElem?_set_ne (fun e => hk e.symm)] at hck
     obtain ⟨u', q1, q2⟩ := h4.get hck
     rw [hu'] at q1
     cases q1
     exact (q2.mono (fun _ _ h => h) hu).mono (fun _ _ h => h) hu2)
   exact ⟨_, _, R2⟩
end

set_option maxHeartbeats 4000000
abbrev FQ (t : Tm) : List SV := [.str t.name, .list (t.args.map BC)]
def EB : Option Tm → SV
 | none => .lit (.pointer none)
 | some t => .ref (FQ t)
def D_ (o : Option Tm) : List SV := [EB o]
abbrev O1 (m : Mv) : AJ := .box 50 [.st (.str m.name), .st (.list (m.frm.map CU)), .st (.int .i64 m.to_)]
abbrev JD : AJ := .box 28 [.st (.str ⟨#[]⟩), .full []]
theorem L1 {best : Av} {i : Nat} (h : i < best.length) : ∃ o, best[i]? = some o ∧ best.getD i none = o := by
 refine ⟨best[i], List.getElem?_eq_getElem h, ?_⟩
 rw [List.getD_eq_getElem?_getD, List.getElem?_eq_getElem h]
 rfl
def Fi (o : Option Tm) : AV := match o with
 | none => .tup [aTm Tm.nil, AY 7]
 | some t => .tup [aTm t, AY 0]
theorem OX {a : Au} (ha : a.may 8 40 = 0) : ∀ m ∈ a.moves, IK m := fun m hm => by
 have h := Mv.err_ok.1 ((Au.may_ok.1 ha).2.1 m hm)
 exact ⟨h.1, h.2.1⟩
theorem Nw {m : Mv} (h : IK m) : ¬ m.name = ⟨#[]⟩ := fun e => by
 have := h.1.1
 rw [e] at this
 exact absurd this (by decide)
theorem Hf {ms : List Mv} {k : Nat} {m : Mv} {best : Av} (hm : ms[k]? = some m) : (ms.take (k + 1)).foldl A4 (best, false) = A4 ((ms.take k).foldl A4 (best, false)) m := by
 rw [Af hm, List.foldl_append]
 rfl
theorem Iw (best : Av) (i : Nat) (t : Tm) : (best.map D_).set i [.ref (FQ t)] = (best.set i (some t)).map D_ := by
 rw [List.map_set]
 rfl
theorem Jy {b : Nat} : ∀ {ts : List Tm}, (∀ t ∈ ts, t.size ≤ b) → Tm.sizes ts ≤ b * ts.length
 | [], _ => by simp [Tm.sizes]
 | t :: ts, h => by
  have h1 := Jy fun x hx => h x (List.mem_cons_of_mem _ hx)
  have h2 := h t (by simp)
  rw [Tm.sizes, List.length_cons, Nat.mul_add]
  omega
theorem OS {ts : List Tm} {j : Nat} (h : ts.length = j) (y : List SV) : (ts.map BC ++ [y])[j]? = some y := by
 subst h
 simp
theorem N7 {ts : List Tm} {j : Nat} (h : ts.length = j) (y z : List SV) : (ts.map BC ++ [y]).set j z = ts.map BC ++ [z] := by
 subst h
 rw [List.set_append_right _ _ (by simp)]
 simp
theorem Nr (a : Au) (hl : a.last.length ≤ 100000) (ha : a.may 8 40 = 0) {n : Nat} {out : Av} (hout : Fq a.moves n (B5 a) out) : AW Try.prog 13 [aAu a] (Fi (Cc out a.last)) := by
 have ga := Au.may_good ha
 have hst := ga.states
 obtain ⟨a1, _, _⟩ := Au.may_ok.1 ha
 have hmv := OX ha
 have hnl : (B5 a).length = a.states.toNat := by simp [B5]
 obtain ⟨hoo, hol⟩ := G6 hmv (DW a) hout
 have hrep : (B5 a).map D_ = List.replicate a.states.toNat [SV.lit (.pointer none)] := by
  rw [B5, List.map_replicate]
  rfl
 have hts : ((a.states.toNat : Nat) : Int) = a.states := by omega
 refine Ez.ac fun C hC => ?_
 unfold DO
 repeat' (first | (with_reducible first | refine W ?_ | refine Z0 ?_ | ((first | refine Wo fun K hK => ?_ | refine Wp ?_ | refine Wq ?_ | refine Wr ?_); (try simp only [go_sem, fN, seval, eT, iR, ha, hrep, dT, dF, nL]); (repeat refine Ai ?_); (try (refine hK _ ?_; clear hK K)); try refine iC ?_)) | refine Cg _ (Bo a) ?_)
 refine IWP.loopD [8, 9, 959] (fun q s => ∃ n more best, q = (if more = true then n + 1 else 0) ∧ (if more = true then Fq a.moves n best out else best = out) ∧ Dj best ∧ best.length = a.states.toNat ∧ s.env 1 = .one (.ptr 1 1 0 0) ∧ s.env 2 = .one (.ptr 2 1 0 0) ∧ s.S 1 = some (AT a) ∧ s.S 2 = some JD ∧ s.env 5 = .one (.row 23 a.states.toNat) ∧ s.S 23 = some (.mrow 65 1 (best.map D_)) ∧ s.env 6 = Al more ∧ s.S 8 = none ∧ s.S 9 = none ∧ s.S 959 = none) (n + 1)
  ⟨n, true, B5 a, rfl, hout, DW a, hnl, rfl, rfl, rfl, rfl, ?_, ?_, rfl, rfl, rfl, rfl⟩ ?_
 ·simp only [go_sem, fN, seval, eT, iR, hts, ga.states]
 ·simp only [go_sem, fN, seval, eT, iR, hts, hrep]
 rintro q ⟨env, St⟩ ⟨n, more, best0, rfl, hends, hob, hbl, e1, e2, s1, s2, e5, s23, e6, s8, s9, s959⟩
 simp only at e1 e2 s1 s2 e5 s23 e6 s8 s9 s959
 unfold AT at s1
 cases more with
 | false =>
  rw [if_neg (by decide)] at hends
  subst hends
  repeat' with_reducible first | refine W ?_ | refine Z0 ?_ | ((first | refine Wo fun K hK => ?_ | refine Wp ?_ | refine Wq ?_ | refine Wr ?_); (try simp only [go_sem, fN, seval, eT, iR, e1, e2, s1, s2, e5, s23, e6, s8, s9, s959, dT, dF, nL]); (repeat refine Ai ?_); (try (refine hK _ ?_; clear hK K)); try refine iC ?_)
  refine IWP.loop (fun q s => ∃ k, k ≤ a.last.length ∧ q = a.last.length - k ∧ s.env 2 = .one (.ptr 2 1 0 0) ∧ s.S 2 = some JD ∧ s.env 5 = .one (.row 23 a.states.toNat) ∧ s.S 23 = some (.mrow 65 1 (best0.map D_)) ∧ s.env 12 = .one (.st (EB (Cc best0 (a.last.take k)))) ∧ s.env 93 = .one (.st (.list (a.last.map CU))) ∧ s.env 94 = AY a.last.length ∧ s.env 95 = AY k ∧ ∀ t, Cc best0 (a.last.take k) = some t → OkB t) a.last.length
   ⟨0, Nat.zero_le _, rfl, by simp only [go_sem, fN, seval, eT, iR, e2], by simp only [go_sem, fN, seval, eT, iR, s2], by simp only [go_sem, fN, seval, eT, iR, e5], by simp only [go_sem, fN, seval, eT, iR, s23], by simp only [go_sem, fN, seval, eT, iR]; rfl, by simp only [go_sem, fN, seval, eT, iR], by simp only [go_sem, fN, seval, eT, iR], by simp only [go_sem, fN, seval, eT, iR], fun t h => by cases h⟩ ?_
  rintro q ⟨env1, S1⟩ ⟨k, hk, rfl, f2, t2, f5, t23, f12, f93, f94, f95, hpk⟩
  simp only at f2 t2 f5 t23 f12 f93 f94 f95
  by_cases hlt : (k : Int) < a.last.length
  ·obtain ⟨x, hx⟩ := Ah (show k < a.last.length by omega)
   have qx := ga.last x (AN hx)
   have hsn : Cc best0 (a.last.take (k + 1)) = J2 best0 (Cc best0 (a.last.take k)) x := by
    unfold Cc
    rw [Af hx, List.foldl_append]
    rfl
   obtain ⟨o, ho, hod⟩ := L1 (best := best0) (i := x.toNat) (by omega)
   have hxb : x.toNat < best0.length := by omega
   unfold J2 at hsn
   rw [hod] at hsn
   generalize Cc best0 (a.last.take k) = o0 at f12 hpk hsn
   cases o with
   | none =>
    simp only at hsn
    repeat' with_reducible first | refine W ?_ | refine Z0 ?_ | ((first | refine Wo fun K hK => ?_ | refine Wp ?_ | refine Wq ?_ | refine Wr ?_); (try simp only [go_sem, fN, seval, eT, iR, f2, t2, f5, t23, f12, f93, f94, f95, hlt, hx, ho, D_, EB, hbl, hts, dT, dF, nL]); (repeat refine Ai ?_); (try (refine hK _ ?_; clear hK K)); try refine iC ?_)
    refine AB ⟨a.last.length - (k + 1), by omega, k + 1, by omega, rfl, ?_⟩
    simp only [go_sem, fN, seval, eT, iR, f2, t2, f5, t23, f12, f93, f94, f95, hsn]
    exact ⟨by cases o0 <;> rfl, by simp, hpk⟩
   | some t =>
    have htk : OkB t := hob t (List.mem_of_getElem? ho)
    cases o0 with
    | none =>
     simp only at hsn
     repeat' with_reducible first | refine W ?_ | refine Z0 ?_ | ((first | refine Wo fun K hK => ?_ | refine Wp ?_ | refine Wq ?_ | refine Wr ?_); (try simp only [go_sem, fN, seval, eT, iR, f2, t2, f5, t23, f12, f93, f94, f95, hlt, hx, ho, D_, EB, hbl, hts, dT, dF, nL]); (repeat refine Ai ?_); (try (refine hK _ ?_; clear hK K)); try refine iC ?_)
     refine AB ⟨a.last.length - (k + 1), by omega, k + 1, by omega, rfl, ?_⟩
     simp only [go_sem, fN, seval, eT, iR, f2, t2, f5, t23, f12, f93, f94, f95, hsn, EB]
     exact ⟨by simp, fun t' h' => by cases h'; exact htk⟩
    | some u =>
     simp only at hsn
     have hu := hpk u rfl
     have hL := NV t u htk hu
     cases hlu : CR t u with
     | true =>
      rw [hlu] at hL hsn
      rw [if_pos rfl] at hsn
      repeat' (first | (with_reducible first | refine W ?_ | refine Z0 ?_ | ((first | refine Wo fun K hK => ?_ | refine Wp ?_ | refine Wq ?_ | refine Wr ?_); (try simp only [go_sem, fN, seval, eT, iR, f2, t2, f5, t23, f12, f93, f94, f95, hlt, hx, ho, D_, EB, hbl, hts, dT, dF, nL]); (repeat refine Ai ?_); (try (refine hK _ ?_; clear hK K)); try refine iC ?_)) | refine Cg _ (hL) ?_)
      refine AB ⟨a.last.length - (k + 1), by omega, k + 1, by omega, rfl, ?_⟩
      simp only [go_sem, fN, seval, eT, iR, f2, t2, f5, t23, f12, f93, f94, f95, hsn, EB]
      exact ⟨by simp, fun t' h' => by cases h'; exact htk⟩
     | false =>
      rw [hlu] at hL hsn
      rw [if_neg (by decide)] at hsn
      repeat' (first | (with_reducible first | refine W ?_ | refine Z0 ?_ | ((first | refine Wo fun K hK => ?_ | refine Wp ?_ | refine Wq ?_ | refine Wr ?_); (try simp only [go_sem, fN, seval, eT, iR, f2, t2, f5, t23, f12, f93, f94, f95, hlt, hx, ho, D_, EB, hbl, hts, dT, dF, nL]); (repeat refine Ai ?_); (try (refine hK _ ?_; clear hK K)); try refine iC ?_)) | refine Cg _ (hL) ?_)
      refine AB ⟨a.last.length - (k + 1), by omega, k + 1, by omega, rfl, ?_⟩
      simp only [go_sem, fN, seval, eT, iR, f2, t2, f5, t23, f12, f93, f94, f95, hsn, EB]
      exact ⟨by simp, fun t' h' => by cases h'; exact hu⟩
  ·rw [List.take_of_length_le (l := a.last) (i := k) (by omega)] at f12 hpk
   generalize Cc best0 a.last = o at *
   cases o with
   | none =>
    repeat' with_reducible first | refine W ?_ | refine Z0 ?_ | ((first | refine Wo fun K hK => ?_ | refine Wp ?_ | refine Wq ?_ | refine Wr ?_); (try simp only [go_sem, fN, seval, eT, iR, f2, t2, f5, t23, f12, f93, f94, f95, hlt, EB, dT, dF, nL]); (repeat refine Ai ?_); (try (refine hK _ ?_; clear hK K)); try refine iC ?_)
    simp only [go_sem, fN, seval, AR, AS.result, AF, AG, AQ, f2, t2]
    rfl
   | some t =>
    have htk := hpk t rfl
    have := htk.2
    repeat' (first | (with_reducible first | refine W ?_ | refine Z0 ?_ | ((first | refine Wo fun K hK => ?_ | refine Wp ?_ | refine Wq ?_ | refine Wr ?_); (try simp only [go_sem, fN, seval, eT, iR, f2, t2, f5, t23, f12, f93, f94, f95, hlt, EB, dT, dF, nL]); (repeat refine Ai ?_); (try (refine hK _ ?_; clear hK K)); try refine iC ?_)) | refine Cg _ (Of t (by omega)) ?_)
    simp only [go_sem, fN, seval, AR, AS.result, AF, AG, AQ, f2, t2]
    rfl
 | true =>
  rw [if_pos rfl] at hends
  repeat' with_reducible first | refine W ?_ | refine Z0 ?_ | ((first | refine Wo fun K hK => ?_ | refine Wp ?_ | refine Wq ?_ | refine Wr ?_); (try simp only [go_sem, fN, seval, eT, iR, e1, e2, s1, s2, e5, s23, e6, s8, s9, s959, dT, dF, nL]); (repeat refine Ai ?_); (try (refine hK _ ?_; clear hK K)); try refine iC ?_)
  refine IWP.loopD [8, 9, 959] (fun q s => ∃ k p, k ≤ a.moves.length ∧ q = a.moves.length - k ∧ p = (a.moves.take k).foldl A4 (best0, false) ∧ s.env 1 = .one (.ptr 1 1 0 0) ∧ s.env 2 = .one (.ptr 2 1 0 0) ∧ s.S 1 = some (AT a) ∧ s.S 2 = some JD ∧ s.env 5 = .one (.row 23 a.states.toNat) ∧ s.S 23 = some (.mrow 65 1 (p.1.map D_)) ∧ s.env 6 = Al p.2 ∧ s.env 26 = .one (.st (.list (a.moves.map A0))) ∧ s.env 27 = AY a.moves.length ∧ s.env 28 = AY k ∧ s.S 8 = none ∧ s.S 9 = none ∧ s.S 959 = none) a.moves.length
   ⟨0, (best0, false), Nat.zero_le _, rfl, rfl, by simp only [go_sem, fN, seval, eT, iR, e1], by simp only [go_sem, fN, seval, eT, iR, e2], by simp only [go_sem, fN, seval, eT, iR, s1, AT], by simp only [go_sem, fN, seval, eT, iR, s2], by simp only [go_sem, fN, seval, eT, iR, e5], by simp only [go_sem, fN, seval, eT, iR, s23], by simp only [go_sem, fN, seval, eT, iR], by simp only [go_sem, fN, seval, eT, iR], by simp only [go_sem, fN, seval, eT, iR], by simp only [go_sem, fN, seval, eT, iR], by simp only [go_sem, fN, seval, eT, iR, s8], by simp only [go_sem, fN, seval, eT, iR, s9], by simp only [go_sem, fN, seval, eT, iR, s959]⟩ ?_
  rintro q ⟨env1, S1⟩ ⟨k, p, hk, rfl, hp, f1, f2, t1, t2, f5, t23, f6, f26, f27, f28, t8, t9, t959⟩
  simp only at f1 f2 t1 t2 f5 t23 f6 f26 f27 f28 t8 t9 t959
  unfold AT at t1
  by_cases hlt : (k : Int) < a.moves.length
  ·obtain ⟨m, hm⟩ := Ah (show k < a.moves.length by omega)
   have hmm := AN hm
   have hto := ga.to_ m hmm
   have hfr := ga.frm m hmm
   have hok := hmv m hmm
   have hne := Nw hok
   have hsn := Hf (best := best0) hm
   rw [← hp] at hsn
   have hpo : Dj p.1 := by rw [hp]; exact CJ hob fun x hx => hmv x (List.mem_of_mem_take hx)
   have hpl : p.1.length = a.states.toNat := by rw [hp, Bn]; exact hbl
   repeat' with_reducible first | refine W ?_ | refine Z0 ?_ | ((first | refine Wo fun K hK => ?_ | refine Wp ?_ | refine Wq ?_ | refine Wr ?_); (try simp only [go_sem, fN, seval, eT, iR, f1, f2, t1, t2, f5, t23, f6, f26, f27, f28, t8, t9, t959, hlt, hm, A0, dT, dF, nL]); (repeat refine Ai ?_); (try (refine hK _ ?_; clear hK K)); try refine iC ?_)
   refine IWP.ghost (Ad.ownCM 9 1 959 28 2 (ty := 28) (cs := [.st (.str m.name), .full []]) (by simp only [go_sem, fN, seval, eT, iR]) rfl (by simp only [go_sem, fN, seval, eT, iR, t959])) ?_
   refine IWP.loop (fun q s => ∃ j ts, j ≤ m.frm.length ∧ q = m.frm.length - j ∧ By p.1 (m.frm.take j) = some ts ∧ ts.length = j ∧ s.env 1 = .one (.ptr 1 1 0 0) ∧ s.env 2 = .one (.ptr 2 1 0 0) ∧ s.S 1 = some (AT a) ∧ s.S 2 = some JD ∧ s.env 5 = .one (.row 23 a.states.toNat) ∧ s.S 23 = some (.mrow 65 1 (p.1.map D_)) ∧ s.env 6 = Al p.2 ∧ s.env 26 = .one (.st (.list (a.moves.map A0))) ∧ s.env 27 = AY a.moves.length ∧ s.env 28 = AY k ∧ s.env 8 = .one (.ptr 8 1 0 0) ∧ s.S 8 = some (O1 m) ∧ s.env 9 = .one (.ptr 9 1 0 0) ∧ s.S 9 = some (.box 28 [.st (.str m.name), .row 959 j]) ∧ s.S 959 = some (.mrow 28 2 (ts.map BC)) ∧ s.env 36 = .one (.st (.list (m.frm.map CU))) ∧ s.env 37 = AY m.frm.length ∧ s.env 38 = AY j) m.frm.length
    ⟨0, [], Nat.zero_le _, rfl, rfl, rfl, by simp only [go_sem, fN, seval, eT, iR, f1], by simp only [go_sem, fN, seval, eT, iR, f2], by simp only [go_sem, fN, seval, eT, iR, t1, AT], by simp only [go_sem, fN, seval, eT, iR, t2], by simp only [go_sem, fN, seval, eT, iR, f5], by simp only [go_sem, fN, seval, eT, iR, t23], by simp only [go_sem, fN, seval, eT, iR, f6], by simp only [go_sem, fN, seval, eT, iR, f26], by simp only [go_sem, fN, seval, eT, iR, f27], by simp only [go_sem, fN, seval, eT, iR, f28], by simp only [go_sem, fN, seval, eT, iR], by simp only [go_sem, fN, seval, eT, iR], by simp only [go_sem, fN, seval, eT, iR], by simp only [go_sem, fN, seval, eT, iR]; rfl, by simp only [go_sem, fN, seval, eT, iR], by simp only [go_sem, fN, seval, eT, iR], by simp only [go_sem, fN, seval, eT, iR], by simp only [go_sem, fN, seval, eT, iR]⟩ ?_
   rintro q ⟨env2, S2⟩ ⟨j, ts, hj, rfl, hcl, htl, g1, g2, u1, u2, g5, u23, g6, g26, g27, g28, g8, u8, g9, u9, u959, g36, g37, g38⟩
   simp only at g1 g2 u1 u2 g5 u23 g6 g26 g27 g28 g8 u8 g9 u9 u959 g36 g37 g38
   unfold AT at u1
   by_cases hjl : (j : Int) < m.frm.length
   ·obtain ⟨x, hx⟩ := Ah (show j < m.frm.length by omega)
    have qx := hfr x (AN hx)
    obtain ⟨o, ho, hod⟩ := L1 (best := p.1) (i := x.toNat) (by omega)
    have hcs := EU (s := x) hcl
    rw [← Af hx, hod] at hcs
    cases o with
    | none =>
     have hcn : m.cand p.1 = none := by
      unfold Mv.cand
      rw [ER (AN hx) hod]
     have hstep : A4 p m = p := by
      unfold A4 Be Mv.gain
      rw [hcn]
      simp
     rw [hstep] at hsn
     repeat' with_reducible first | refine W ?_ | refine Z0 ?_ | ((first | refine Wo fun K hK => ?_ | refine Wp ?_ | refine Wq ?_ | refine Wr ?_); (try simp only [go_sem, fN, seval, eT, iR, g1, g2, u1, u2, g5, u23, g6, g26, g27, g28, g8, u8, g9, u9, u959, g36, g37, g38, hjl, hx, ho, D_, EB, hpl, hts, dT, dF, nL]); (repeat refine Ai ?_); (try (refine hK _ ?_; clear hK K)); try refine iC ?_)
     refine AB ⟨a.moves.length - (k + 1), by omega, k + 1, p, by omega, rfl, hsn.symm, ?_⟩
     simp only [go_sem, fN, seval, AS.drop, Ag, AC.clears, AC.clear, AC.highs, AC.high, Bool.not_false, Bool.true_and, Bool.and_self, AV.purge, AV.purges, AC.purge, AJ.purge, List.contains_cons, List.contains_nil, Nat.reduceBEq, Bool.or_self, Bool.or_false, Bool.false_or, Bool.or_true, eT, iR, g1, g2, u1, u2, g5, u23, g6, g26, g27, g28, g8, u8, g9, u9, u959, AT]
     simp
    | some t =>
     have htk : OkB t := hpo t (List.mem_of_getElem? ho)
     have b1 : j + 1 ≤ maxLen := by
      rw [Ba]
      have := hok.2
      omega
     have b2 : (j + 1) * 40 ≤ 140737488355328 := by
      have := hok.2
      omega
     have b3 : j < j + 1 := Nat.lt_succ_self j
     have b4 := OS htl [SV.str ⟨#[]⟩, SV.list []]
     have b5 := N7 htl [SV.str ⟨#[]⟩, SV.list []]
     repeat' with_reducible first | refine W ?_ | refine Z0 ?_ | ((first | refine Wo fun K hK => ?_ | refine Wp ?_ | refine Wq ?_ | refine Wr ?_); (try simp only [go_sem, fN, seval, eT, iR, g1, g2, u1, u2, g5, u23, g6, g26, g27, g28, g8, u8, g9, u9, u959, g36, g37, g38, hjl, hx, ho, D_, EB, hpl, hts, htl, b1, b2, b3, b4, b5, dT, dF, nL]); (repeat refine Ai ?_); (try (refine hK _ ?_; clear hK K)); try refine iC ?_)
     refine AB ⟨m.frm.length - (j + 1), by omega, j + 1, ts ++ [t], by omega, rfl, hcs, by simp [htl], ?_⟩
     simp only [go_sem, fN, seval, eT, iR, g1, g2, u1, u2, g5, u23, g6, g26, g27, g28, g8, u8, g9, u9, u959, g36, g37, g38, AT, htl]
     exact ⟨by simp [CG t], by simp⟩
   ·have hjm : j = m.frm.length := by omega
    rw [hjm, List.take_of_length_le (Nat.le_refl _)] at hcl
    rw [hjm] at htl
    have hjt : j = ts.length := by omega
    rw [hjt] at u9
    have hcd : m.cand p.1 = if (Tm.mk m.name ts).size ≤ 2000 then some (.mk m.name ts) else none := by
     unfold Mv.cand
     rw [hcl]
    have hsz : ∀ t ∈ ts, t.size ≤ 2000 := fun t ht => (hpo t (Fb hcl t ht)).2
    have htz : (Tm.mk m.name ts).size ≤ 1000000 := by
     have h1 := hok.2
     have h2 := Jy hsz
     simp only [Tm.size]
     have : 2000 * ts.length ≤ 2000 * 4 := Nat.mul_le_mul_left _ (by omega)
     omega
    have hS : AW Try.prog 32 [.agg [.st (.str m.name), .st (.list (ts.map BC))]] (AY (Tm.mk m.name ts).size) := E0 (Tm.mk m.name ts) htz
    have hcand := fun (h : (Tm.mk m.name ts).size ≤ 2000) => F_ hpo hok (hcd.trans (if_pos h))
    have hLt : ∀ (b : Tm) (h : OkB (Tm.mk m.name ts)) (hb : OkB b), AW Try.prog 33 [.agg [.st (.str m.name), .st (.list (ts.map BC))], aTm b] (Al (CR (Tm.mk m.name ts) b)) := fun b h hb => NV _ b h hb
    have hn1 : (Tm.mk m.name ts).name = m.name := rfl
    have hn2 : (Tm.mk m.name ts).args = ts := rfl
    have hlen : (ts.map BC).length = ts.length := List.length_map _
    refine IWP.ghost (Ad.share (id := 959) u959) ?_
    refine IWP.ghost (Ad.ice 9 (id := 9) (e := 28) (cs := [.st (.str m.name), .row 959 ts.length]) (xs := FQ (.mk m.name ts)) (by simp only [go_sem, fN, seval, eT, iR, u9]) (by simp only [go_sem, fN, seval, eT, iR, hlen, stCs, stC, hn1, hn2, FQ]) (by simp only [go_sem, fN, seval, eT, iR, g9]) (by omega)) ?_
    refine IWP.ghost (Ad.toRef 9 (cs := FQ (.mk m.name ts)) (by simp only [go_sem, fN, seval, eT, iR]) (by omega)) ?_
    generalize Tm.mk m.name ts = t at *
    by_cases hbig : 2000 < (t.size : Int)
    ·have hcn : m.cand p.1 = none := by rw [hcd, if_neg (by omega)]
     have hstep : A4 p m = p := by
      unfold A4 Be Mv.gain
      rw [hcn]
      simp
     rw [hstep] at hsn
     repeat' (first | (with_reducible first | refine W ?_ | refine Z0 ?_ | ((first | refine Wo fun K hK => ?_ | refine Wp ?_ | refine Wq ?_ | refine Wr ?_); (try simp only [go_sem, fN, seval, eT, iR, g1, g2, u1, u2, g5, u23, g6, g26, g27, g28, g8, u8, g9, u9, u959, g36, g37, g38, hjl, hne, hn1, hn2, hbig, dT, dF, nL]); (repeat refine Ai ?_); (try (refine hK _ ?_; clear hK K)); try refine iC ?_)) | refine Cg _ (hS) ?_)
     refine AB ⟨a.moves.length - (k + 1), by omega, k + 1, p, by omega, rfl, hsn.symm, ?_⟩
     simp only [go_sem, fN, seval, AS.drop, Ag, AC.clears, AC.clear, AC.highs, AC.high, Bool.not_false, Bool.true_and, Bool.and_self, AV.purge, AV.purges, AC.purge, AJ.purge, List.contains_cons, List.contains_nil, Nat.reduceBEq, Bool.or_self, Bool.or_false, Bool.false_or, Bool.or_true, eT, iR, g1, g2, u1, u2, g5, u23, g6, g26, g27, g28, g8, u8, g9, u9, u959, AT]
     simp
    ·have htk := hcand (by omega)
     rw [if_pos (by omega)] at hcd
     obtain ⟨o, ho, hod⟩ := L1 (best := p.1) (i := m.to_.toNat) (by omega)
     cases o with
     | none =>
      have hgn : m.gain p.1 = some t := by
       unfold Mv.gain
       rw [hcd, hod]
      have hstep : A4 p m = (p.1.set m.to_.toNat (some t), true) := by
       unfold A4 Be
       rw [hgn]
       simp
      rw [hstep] at hsn
      repeat' (first | (with_reducible first | refine W ?_ | refine Z0 ?_ | ((first | refine Wo fun K hK => ?_ | refine Wp ?_ | refine Wq ?_ | refine Wr ?_); (try simp only [go_sem, fN, seval, eT, iR, g1, g2, u1, u2, g5, u23, g6, g26, g27, g28, g8, u8, g9, u9, u959, g36, g37, g38, hjl, hne, hn1, hn2, hbig, ho, D_, EB, hpl, hts, Iw, dT, dF, nL]); (repeat refine Ai ?_); (try (refine hK _ ?_; clear hK K)); try refine iC ?_)) | refine Cg _ (hS) ?_)
      refine AB ⟨a.moves.length - (k + 1), by omega, k + 1, _, by omega, rfl, hsn.symm, ?_⟩
      simp only [go_sem, fN, seval, AS.drop, Ag, AC.clears, AC.clear, AC.highs, AC.high, Bool.not_false, Bool.true_and, Bool.and_self, AV.purge, AV.purges, AC.purge, AJ.purge, List.contains_cons, List.contains_nil, Nat.reduceBEq, Bool.or_self, Bool.or_false, Bool.false_or, Bool.or_true, eT, iR, g1, g2, u1, u2, g5, u23, g6, g26, g27, g28, g8, u8, g9, u9, u959, AT]
      simp
     | some b =>
      have hbk : OkB b := hpo b (List.mem_of_getElem? ho)
      have hL := hLt b htk hbk
      cases hlb : CR t b with
      | true =>
       rw [hlb] at hL
       have hgn : m.gain p.1 = some t := by
        unfold Mv.gain
        rw [hcd, hod]
        simp [hlb]
       have hstep : A4 p m = (p.1.set m.to_.toNat (some t), true) := by
        unfold A4 Be
        rw [hgn]
        simp
       rw [hstep] at hsn
       repeat' (first | (with_reducible first | refine W ?_ | refine Z0 ?_ | ((first | refine Wo fun K hK => ?_ | refine Wp ?_ | refine Wq ?_ | refine Wr ?_); (try simp only [go_sem, fN, seval, eT, iR, g1, g2, u1, u2, g5, u23, g6, g26, g27, g28, g8, u8, g9, u9, u959, g36, g37, g38, hjl, hne, hn1, hn2, hbig, ho, D_, EB, hpl, hts, Iw, dT, dF, nL]); (repeat refine Ai ?_); (try (refine hK _ ?_; clear hK K)); try refine iC ?_)) | refine Cg _ (hS) ?_ | refine Cg _ (hL) ?_)
       refine AB ⟨a.moves.length - (k + 1), by omega, k + 1, _, by omega, rfl, hsn.symm, ?_⟩
       simp only [go_sem, fN, seval, AS.drop, Ag, AC.clears, AC.clear, AC.highs, AC.high, Bool.not_false, Bool.true_and, Bool.and_self, AV.purge, AV.purges, AC.purge, AJ.purge, List.contains_cons, List.contains_nil, Nat.reduceBEq, Bool.or_self, Bool.or_false, Bool.false_or, Bool.or_true, eT, iR, g1, g2, u1, u2, g5, u23, g6, g26, g27, g28, g8, u8, g9, u9, u959, AT]
       simp
      | false =>
       rw [hlb] at hL
       have hgn : m.gain p.1 = none := by
        unfold Mv.gain
        rw [hcd, hod]
        simp [hlb]
       have hstep : A4 p m = p := by
        unfold A4 Be
        rw [hgn]
        simp
       rw [hstep] at hsn
       repeat' (first | (with_reducible first | refine W ?_ | refine Z0 ?_ | ((first | refine Wo fun K hK => ?_ | refine Wp ?_ | refine Wq ?_ | refine Wr ?_); (try simp only [go_sem, fN, seval, eT, iR, g1, g2, u1, u2, g5, u23, g6, g26, g27, g28, g8, u8, g9, u9, u959, g36, g37, g38, hjl, hne, hn1, hn2, hbig, ho, D_, EB, hpl, hts, dT, dF, nL]); (repeat refine Ai ?_); (try (refine hK _ ?_; clear hK K)); try refine iC ?_)) | refine Cg _ (hS) ?_ | refine Cg _ (hL) ?_)
       refine AB ⟨a.moves.length - (k + 1), by omega, k + 1, p, by omega, rfl, hsn.symm, ?_⟩
       simp only [go_sem, fN, seval, AS.drop, Ag, AC.clears, AC.clear, AC.highs, AC.high, Bool.not_false, Bool.true_and, Bool.and_self, AV.purge, AV.purges, AC.purge, AJ.purge, List.contains_cons, List.contains_nil, Nat.reduceBEq, Bool.or_self, Bool.or_false, Bool.false_or, Bool.or_true, eT, iR, g1, g2, u1, u2, g5, u23, g6, g26, g27, g28, g8, u8, g9, u9, u959, AT]
       simp
  ·rw [List.take_of_length_le (l := a.moves) (i := k) (by omega)] at hp
   have hpp : p = Ek a.moves best0 := hp
   have hpo : Dj p.1 := by rw [hp]; exact CJ hob hmv
   have hpl : p.1.length = a.states.toNat := by rw [hp, Bn]; exact hbl
   obtain ⟨b, more⟩ := p
   simp only at t23 f6 hpo hpl
   repeat' with_reducible first | refine W ?_ | refine Z0 ?_ | ((first | refine Wo fun K hK => ?_ | refine Wp ?_ | refine Wq ?_ | refine Wr ?_); (try simp only [go_sem, fN, seval, eT, iR, f1, f2, t1, t2, f5, t23, f6, f26, f27, f28, t8, t9, t959, hlt, dT, dF, nL]); (repeat refine Ai ?_); (try (refine hK _ ?_; clear hK K)); try refine iC ?_)
   cases n with
   | zero =>
    have h0 : Ek a.moves best0 = (out, false) := hends
    rw [← hpp] at h0
    cases h0
    refine AB ⟨0, by simp, 0, false, out, by simp, by simp, hpo, hpl, ?_⟩
    simp only [go_sem, fN, seval, AS.drop, Ag, AC.clears, AC.clear, AC.highs, AC.high, Bool.not_false, Bool.true_and, Bool.and_self, AV.purge, AV.purges, AC.purge, AJ.purge, List.contains_cons, List.contains_nil, Nat.reduceBEq, Bool.or_self, Bool.or_false, Bool.false_or, Bool.or_true, eT, iR, f1, f2, t1, t2, f5, t23, f6, f26, f27, f28, t8, t9, t959, AT]
   | succ n =>
    obtain ⟨q1, q2⟩ := hends
    rw [← hpp] at q1 q2
    simp only at q1 q2
    subst q1
    refine AB ⟨n + 1, by simp, n, true, b, by simp, by simpa using q2, hpo, hpl, ?_⟩
    simp only [go_sem, fN, seval, AS.drop, Ag, AC.clears, AC.clear, AC.highs, AC.high, Bool.not_false, Bool.true_and, Bool.and_self, AV.purge, AV.purges, AC.purge, AJ.purge, List.contains_cons, List.contains_nil, Nat.reduceBEq, Bool.or_self, Bool.or_false, Bool.false_or, Bool.or_true, eT, iR, f1, f2, t1, t2, f5, t23, f6, f26, f27, f28, t8, t9, t959, AT]

def E5 (o : Option Tm) : List SV := FQ (o.getD Tm.nil)
def Db (o : Option Tm) : List SV := [.bool o.isSome]
def Do (o : Option Tm) : AV := match o with
 | none => .tup [aTm Tm.nil, Al false]
 | some t => .tup [aTm t, Al true]
theorem Mo (best : Av) (i : Nat) (t : Tm) : (best.map E5).set i [.str t.name, .list (t.args.map BC)] = (best.set i (some t)).map E5 := by
 rw [List.map_set]
 rfl
theorem M_ (best : Av) (i : Nat) (t : Tm) : (best.map Db).set i [.bool true] = (best.set i (some t)).map Db := by
 rw [List.map_set]
 rfl
theorem OM (a : Au) (hl : a.last.length ≤ 100000) (ha : a.may 8 40 = 0) {n : Nat} {out : Av} (hout : Fq a.moves n (B5 a) out) : AW Try.prog 11 [aAu a] (Do (Cc out a.last)) := by
 have ga := Au.may_good ha
 have hst := ga.states
 obtain ⟨a1, _, _⟩ := Au.may_ok.1 ha
 have hmv := OX ha
 have hnl : (B5 a).length = a.states.toNat := by simp [B5]
 obtain ⟨hoo, hol⟩ := G6 hmv (DW a) hout
 have hrep : (B5 a).map E5 = List.replicate a.states.toNat [SV.str ⟨#[]⟩, SV.list []] := by
  rw [B5, List.map_replicate]
  rfl
 have hrep2 : (B5 a).map Db = List.replicate a.states.toNat [SV.bool false] := by
  rw [B5, List.map_replicate]
  rfl
 have hts : ((a.states.toNat : Nat) : Int) = a.states := by omega
 refine Jv.ac fun C hC => ?_
 unfold Ff
 repeat' with_reducible first | refine W ?_ | refine Z0 ?_ | ((first | refine Wo fun K hK => ?_ | refine Wp ?_ | refine Wq ?_ | refine Wr ?_); (try simp only [go_sem, fN, seval, eT, iR, dT, dF, nL]); (repeat refine Ai ?_); (try (refine hK _ ?_; clear hK K)); try refine iC ?_)
 refine IWP.loopD [8, 9, 959] (fun q s => ∃ n more best, q = (if more = true then n + 1 else 0) ∧ (if more = true then Fq a.moves n best out else best = out) ∧ Dj best ∧ best.length = a.states.toNat ∧ s.env 1 = .one (.ptr 1 1 0 0) ∧ s.env 2 = .one (.ptr 2 1 0 0) ∧ s.S 1 = some (AT a) ∧ s.S 2 = some JD ∧ s.env 3 = Al false ∧ s.env 4 = .one (.row 17 a.states.toNat) ∧ s.S 17 = some (.mrow 4 1 (best.map Db)) ∧ s.env 5 = .one (.row 20 a.states.toNat) ∧ s.S 20 = some (.mrow 28 2 (best.map E5)) ∧ s.env 6 = Al more ∧ s.S 8 = none ∧ s.S 9 = none ∧ s.S 959 = none) (n + 1)
  ⟨n, true, B5 a, rfl, hout, DW a, hnl, rfl, rfl, rfl, rfl, rfl, ?_, ?_, ?_, ?_, rfl, rfl, rfl, rfl⟩ ?_
 ·simp only [go_sem, fN, seval, eT, iR, hts, ga.states]
 ·simp only [go_sem, fN, seval, eT, iR, hts, hrep2]
 ·simp only [go_sem, fN, seval, eT, iR, hts, ga.states]
 ·simp only [go_sem, fN, seval, eT, iR, hts, hrep]
 rintro q ⟨env, St⟩ ⟨n, more, best0, rfl, hends, hob, hbl, e1, e2, s1, s2, e3, e4, s17, e5, s20, e6, s8, s9, s959⟩
 simp only at e1 e2 s1 s2 e3 e4 s17 e5 s20 e6 s8 s9 s959
 unfold AT at s1
 cases more with
 | false =>
  rw [if_neg (by decide)] at hends
  subst hends
  repeat' with_reducible first | refine W ?_ | refine Z0 ?_ | ((first | refine Wo fun K hK => ?_ | refine Wp ?_ | refine Wq ?_ | refine Wr ?_); (try simp only [go_sem, fN, seval, eT, iR, e1, e2, s1, s2, e3, e4, s17, e5, s20, e6, s8, s9, s959, dT, dF, nL]); (repeat refine Ai ?_); (try (refine hK _ ?_; clear hK K)); try refine iC ?_)
  refine IWP.loop (fun q s => ∃ k, k ≤ a.last.length ∧ q = a.last.length - k ∧ s.env 1 = .one (.ptr 1 1 0 0) ∧ s.S 1 = some (AT a) ∧ s.env 2 = .one (.ptr 2 1 0 0) ∧ s.S 2 = some JD ∧ s.env 3 = Al false ∧ s.env 4 = .one (.row 17 a.states.toNat) ∧ s.S 17 = some (.mrow 4 1 (best0.map Db)) ∧ s.env 5 = .one (.row 20 a.states.toNat) ∧ s.S 20 = some (.mrow 28 2 (best0.map E5)) ∧ s.env 13 = AY k ∧ ((s.env 12 = AY (-1) ∧ Cc best0 (a.last.take k) = none) ∨ ∃ i : Nat, ∃ u, s.env 12 = AY i ∧ best0[i]? = some (some u) ∧ Cc best0 (a.last.take k) = some u)) a.last.length
   ⟨0, Nat.zero_le _, rfl, by simp only [go_sem, fN, seval, eT, iR, e1], by simp only [go_sem, fN, seval, eT, iR, s1, AT], by simp only [go_sem, fN, seval, eT, iR, e2], by simp only [go_sem, fN, seval, eT, iR, s2], by simp only [go_sem, fN, seval, eT, iR, e3], by simp only [go_sem, fN, seval, eT, iR, e4], by simp only [go_sem, fN, seval, eT, iR, s17], by simp only [go_sem, fN, seval, eT, iR, e5], by simp only [go_sem, fN, seval, eT, iR, s20], by simp only [go_sem, fN, seval, eT, iR], .inl ⟨by simp only [go_sem, fN, seval, eT, iR], rfl⟩⟩ ?_
  rintro q ⟨env1, S1⟩ ⟨k, hk, rfl, f1, t1, f2, t2, f3, f4, t17, f5, t20, f13, hpk⟩
  simp only at f1 t1 f2 t2 f3 f4 t17 f5 t20 f13 hpk
  unfold AT at t1
  by_cases hlt : (k : Int) < a.last.length
  ·obtain ⟨x, hx⟩ := Ah (show k < a.last.length by omega)
   have qx := ga.last x (AN hx)
   have hsn : Cc best0 (a.last.take (k + 1)) = J2 best0 (Cc best0 (a.last.take k)) x := by
    unfold Cc
    rw [Af hx, List.foldl_append]
    rfl
   obtain ⟨o, ho, hod⟩ := L1 (best := best0) (i := x.toNat) (by omega)
   have hxb : x.toNat < best0.length := by omega
   have hxn : ((x.toNat : Nat) : Int) = x := by omega
   unfold J2 at hsn
   rw [hod] at hsn
   cases o with
   | none =>
    simp only at hsn
    rw [← hsn] at hpk
    rcases hpk with ⟨f12, hpk⟩ | ⟨i, u, f12, hi, hpk⟩
    ·repeat' with_reducible first | refine W ?_ | refine Z0 ?_ | ((first | refine Wo fun K hK => ?_ | refine Wp ?_ | refine Wq ?_ | refine Wr ?_); (try simp only [go_sem, fN, seval, eT, iR, f1, t1, f2, t2, f3, f4, t17, f5, t20, f13, f12, hlt, hx, ho, Db, Option.isSome_none, hbl, hts, dT, dF, nL]); (repeat refine Ai ?_); (try (refine hK _ ?_; clear hK K)); try refine iC ?_)
     refine AB ⟨a.last.length - (k + 1), by omega, k + 1, by omega, rfl, ?_⟩
     simp only [go_sem, fN, seval, eT, iR, f1, t1, f2, t2, f3, f4, t17, f5, t20, f13, f12, AT]
     exact ⟨by simp, .inl hpk⟩
    ·repeat' with_reducible first | refine W ?_ | refine Z0 ?_ | ((first | refine Wo fun K hK => ?_ | refine Wp ?_ | refine Wq ?_ | refine Wr ?_); (try simp only [go_sem, fN, seval, eT, iR, f1, t1, f2, t2, f3, f4, t17, f5, t20, f13, f12, hlt, hx, ho, Db, Option.isSome_none, hbl, hts, dT, dF, nL]); (repeat refine Ai ?_); (try (refine hK _ ?_; clear hK K)); try refine iC ?_)
     refine AB ⟨a.last.length - (k + 1), by omega, k + 1, by omega, rfl, ?_⟩
     simp only [go_sem, fN, seval, eT, iR, f1, t1, f2, t2, f3, f4, t17, f5, t20, f13, f12, AT]
     exact ⟨by simp, .inr ⟨i, u, rfl, hi, hpk⟩⟩
   | some t =>
    have htk : OkB t := hob t (List.mem_of_getElem? ho)
    rcases hpk with ⟨f12, hpk⟩ | ⟨i, u, f12, hi, hpk⟩
    ·rw [hpk] at hsn
     simp only at hsn
     repeat' with_reducible first | refine W ?_ | refine Z0 ?_ | ((first | refine Wo fun K hK => ?_ | refine Wp ?_ | refine Wq ?_ | refine Wr ?_); (try simp only [go_sem, fN, seval, eT, iR, f1, t1, f2, t2, f3, f4, t17, f5, t20, f13, f12, hlt, hx, ho, Db, Option.isSome_some, hbl, hts, dT, dF, nL]); (repeat refine Ai ?_); (try (refine hK _ ?_; clear hK K)); try refine iC ?_)
     refine AB ⟨a.last.length - (k + 1), by omega, k + 1, by omega, rfl, ?_⟩
     simp only [go_sem, fN, seval, eT, iR, f1, t1, f2, t2, f3, f4, t17, f5, t20, f13, f12, AT]
     exact ⟨by simp, .inr ⟨x.toNat, t, by rw [hxn], ho, hsn⟩⟩
    ·rw [hpk] at hsn
     simp only at hsn
     have hu := hob u (List.mem_of_getElem? hi)
     have hib : i < best0.length := (List.getElem?_eq_some_iff.1 hi).1
     have hi0 : ¬ ((i : Nat) : Int) < 0 := by omega
     have hL := IB t u htk hu
     cases hlu : CR t u with
     | true =>
      rw [hlu] at hL hsn
      rw [if_pos rfl] at hsn
      repeat' (first | (with_reducible first | refine W ?_ | refine Z0 ?_ | ((first | refine Wo fun K hK => ?_ | refine Wp ?_ | refine Wq ?_ | refine Wr ?_); (try simp only [go_sem, fN, seval, eT, iR, f1, t1, f2, t2, f3, f4, t17, f5, t20, f13, f12, hlt, hx, ho, Db, E5, Option.isSome_some, Option.getD_some, hbl, hts, hi, hi0, Int.toNat_natCast, dT, dF, nL]); (repeat refine Ai ?_); (try (refine hK _ ?_; clear hK K)); try refine iC ?_)) | refine Cg _ (hL) ?_)
      refine AB ⟨a.last.length - (k + 1), by omega, k + 1, by omega, rfl, ?_⟩
      simp only [go_sem, fN, seval, eT, iR, f1, t1, f2, t2, f3, f4, t17, f5, t20, f13, f12, AT]
      exact ⟨by simp, .inr ⟨x.toNat, t, by rw [hxn], ho, hsn⟩⟩
     | false =>
      rw [hlu] at hL hsn
      rw [if_neg (by decide)] at hsn
      repeat' (first | (with_reducible first | refine W ?_ | refine Z0 ?_ | ((first | refine Wo fun K hK => ?_ | refine Wp ?_ | refine Wq ?_ | refine Wr ?_); (try simp only [go_sem, fN, seval, eT, iR, f1, t1, f2, t2, f3, f4, t17, f5, t20, f13, f12, hlt, hx, ho, Db, E5, Option.isSome_some, Option.getD_some, hbl, hts, hi, hi0, Int.toNat_natCast, dT, dF, nL]); (repeat refine Ai ?_); (try (refine hK _ ?_; clear hK K)); try refine iC ?_)) | refine Cg _ (hL) ?_)
      refine AB ⟨a.last.length - (k + 1), by omega, k + 1, by omega, rfl, ?_⟩
      simp only [go_sem, fN, seval, eT, iR, f1, t1, f2, t2, f3, f4, t17, f5, t20, f13, f12, AT]
      exact ⟨by simp, .inr ⟨i, u, rfl, hi, hsn⟩⟩
  ·rw [List.take_of_length_le (l := a.last) (i := k) (by omega)] at hpk
   rcases hpk with ⟨f12, hpk⟩ | ⟨i, u, f12, hi, hpk⟩
   ·rw [hpk]
    repeat' with_reducible first | refine W ?_ | refine Z0 ?_ | ((first | refine Wo fun K hK => ?_ | refine Wp ?_ | refine Wq ?_ | refine Wr ?_); (try simp only [go_sem, fN, seval, eT, iR, f1, t1, f2, t2, f3, f4, t17, f5, t20, f13, f12, hlt, dT, dF, nL]); (repeat refine Ai ?_); (try (refine hK _ ?_; clear hK K)); try refine iC ?_)
    simp only [go_sem, fN, seval, AR, AS.result, AF, AG, AQ, f2, t2, f3]
    rfl
   ·rw [hpk]
    have hib : i < best0.length := (List.getElem?_eq_some_iff.1 hi).1
    have hi0 : ¬ ((i : Nat) : Int) < 0 := by omega
    repeat' with_reducible first | refine W ?_ | refine Z0 ?_ | ((first | refine Wo fun K hK => ?_ | refine Wp ?_ | refine Wq ?_ | refine Wr ?_); (try simp only [go_sem, fN, seval, eT, iR, f1, t1, f2, t2, f3, f4, t17, f5, t20, f13, f12, hlt, E5, Option.getD_some, hbl, hts, hi, hi0, Int.toNat_natCast, dT, dF, nL]); (repeat refine Ai ?_); (try (refine hK _ ?_; clear hK K)); try refine iC ?_)
    simp only [go_sem, fN, seval, AR, AS.result, AF, AG, AQ, f2, t2]
    rfl
 | true =>
  rw [if_pos rfl] at hends
  repeat' with_reducible first | refine W ?_ | refine Z0 ?_ | ((first | refine Wo fun K hK => ?_ | refine Wp ?_ | refine Wq ?_ | refine Wr ?_); (try simp only [go_sem, fN, seval, eT, iR, e1, e2, s1, s2, e3, e4, s17, e5, s20, e6, s8, s9, s959, dT, dF, nL]); (repeat refine Ai ?_); (try (refine hK _ ?_; clear hK K)); try refine iC ?_)
  refine IWP.loopD [8, 9, 959] (fun q s => ∃ k p, k ≤ a.moves.length ∧ q = a.moves.length - k ∧ p = (a.moves.take k).foldl A4 (best0, false) ∧ s.env 1 = .one (.ptr 1 1 0 0) ∧ s.env 2 = .one (.ptr 2 1 0 0) ∧ s.S 1 = some (AT a) ∧ s.S 2 = some JD ∧ s.env 3 = Al false ∧ s.env 4 = .one (.row 17 a.states.toNat) ∧ s.S 17 = some (.mrow 4 1 (p.1.map Db)) ∧ s.env 5 = .one (.row 20 a.states.toNat) ∧ s.S 20 = some (.mrow 28 2 (p.1.map E5)) ∧ s.env 6 = Al p.2 ∧ s.env 7 = AY k ∧ s.S 8 = none ∧ s.S 9 = none ∧ s.S 959 = none) a.moves.length
   ⟨0, (best0, false), Nat.zero_le _, rfl, rfl, by simp only [go_sem, fN, seval, eT, iR, e1], by simp only [go_sem, fN, seval, eT, iR, e2], by simp only [go_sem, fN, seval, eT, iR, s1, AT], by simp only [go_sem, fN, seval, eT, iR, s2], by simp only [go_sem, fN, seval, eT, iR, e3], by simp only [go_sem, fN, seval, eT, iR, e4], by simp only [go_sem, fN, seval, eT, iR, s17], by simp only [go_sem, fN, seval, eT, iR, e5], by simp only [go_sem, fN, seval, eT, iR, s20], by simp only [go_sem, fN, seval, eT, iR], by simp only [go_sem, fN, seval, eT, iR], by simp only [go_sem, fN, seval, eT, iR, s8], by simp only [go_sem, fN, seval, eT, iR, s9], by simp only [go_sem, fN, seval, eT, iR, s959]⟩ ?_
  rintro q ⟨env1, S1⟩ ⟨k, p, hk, rfl, hp, f1, f2, t1, t2, f3, f4, t17, f5, t20, f6, f7, t8, t9, t959⟩
  simp only at f1 f2 t1 t2 f3 f4 t17 f5 t20 f6 f7 t8 t9 t959
  unfold AT at t1
  by_cases hlt : (k : Int) < a.moves.length
  ·obtain ⟨m, hm⟩ := Ah (show k < a.moves.length by omega)
   have hmm := AN hm
   have hto := ga.to_ m hmm
   have hfr := ga.frm m hmm
   have hok := hmv m hmm
   have hsn := Hf (best := best0) hm
   rw [← hp] at hsn
   have hpo : Dj p.1 := by rw [hp]; exact CJ hob fun x hx => hmv x (List.mem_of_mem_take hx)
   have hpl : p.1.length = a.states.toNat := by rw [hp, Bn]; exact hbl
   repeat' with_reducible first | refine W ?_ | refine Z0 ?_ | ((first | refine Wo fun K hK => ?_ | refine Wp ?_ | refine Wq ?_ | refine Wr ?_); (try simp only [go_sem, fN, seval, eT, iR, f1, f2, t1, t2, f3, f4, t17, f5, t20, f6, f7, t8, t9, t959, hlt, hm, A0, dT, dF, nL]); (repeat refine Ai ?_); (try (refine hK _ ?_; clear hK K)); try refine iC ?_)
   refine IWP.ghost (Ad.ownC (C := C) 9 1 959 28 2 (xs := ([] : List Tm).map BC) (ty := 28) (cs := [.st (.str m.name), .full []]) (by simp only [go_sem, fN, seval, eT, iR]) rfl (by simp only [go_sem, fN, seval, eT, iR, t959]) FS) ?_
   refine IWP.loop (fun q s => ∃ j ts ok, j ≤ m.frm.length ∧ q = m.frm.length - j ∧ (if ok = true then By p.1 (m.frm.take j) = some ts ∧ ts.length = j else By p.1 m.frm = none) ∧ ts.length ≤ j ∧ s.env 1 = .one (.ptr 1 1 0 0) ∧ s.env 2 = .one (.ptr 2 1 0 0) ∧ s.S 1 = some (AT a) ∧ s.S 2 = some JD ∧ s.env 3 = Al false ∧ s.env 4 = .one (.row 17 a.states.toNat) ∧ s.S 17 = some (.mrow 4 1 (p.1.map Db)) ∧ s.env 5 = .one (.row 20 a.states.toNat) ∧ s.S 20 = some (.mrow 28 2 (p.1.map E5)) ∧ s.env 6 = Al p.2 ∧ s.env 7 = AY k ∧ s.env 8 = .one (.ptr 8 1 0 0) ∧ s.S 8 = some (O1 m) ∧ s.env 9 = .one (.ptr 9 1 0 0) ∧ s.S 9 = some (.box 28 [.st (.str m.name), .row 959 ts.length]) ∧ s.S 959 = some (.arow 28 2 (ts.map BC)) ∧ s.env 10 = Al ok ∧ s.env 11 = AY j) m.frm.length
    ⟨0, [], true, Nat.zero_le _, rfl, ⟨rfl, rfl⟩, Nat.le_refl _, by simp only [go_sem, fN, seval, eT, iR, f1], by simp only [go_sem, fN, seval, eT, iR, f2], by simp only [go_sem, fN, seval, eT, iR, t1, AT], by simp only [go_sem, fN, seval, eT, iR, t2], by simp only [go_sem, fN, seval, eT, iR, f3], by simp only [go_sem, fN, seval, eT, iR, f4], by simp only [go_sem, fN, seval, eT, iR, t17], by simp only [go_sem, fN, seval, eT, iR, f5], by simp only [go_sem, fN, seval, eT, iR, t20], by simp only [go_sem, fN, seval, eT, iR, f6], by simp only [go_sem, fN, seval, eT, iR, f7], by simp only [go_sem, fN, seval, eT, iR], by simp only [go_sem, fN, seval, eT, iR], by simp only [go_sem, fN, seval, eT, iR], by simp only [go_sem, fN, seval, eT, iR]; rfl, by simp only [go_sem, fN, seval, eT, iR], by simp only [go_sem, fN, seval, eT, iR], by simp only [go_sem, fN, seval, eT, iR]⟩ ?_
   rintro q ⟨env2, S2⟩ ⟨j, ts, ok, hj, rfl, hcl, htj, g1, g2, u1, u2, g3, g4, u17, g5, u20, g6, g7, g8, u8, g9, u9, u959, g10, g11⟩
   simp only at g1 g2 u1 u2 g3 g4 u17 g5 u20 g6 g7 g8 u8 g9 u9 u959 g10 g11
   unfold AT at u1
   have hlen : (ts.map BC).length = ts.length := List.length_map _
   have h4 := hok.2
   by_cases hjl : (j : Int) < m.frm.length
   ·obtain ⟨x, hx⟩ := Ah (show j < m.frm.length by omega)
    have qx := hfr x (AN hx)
    obtain ⟨o, ho, hod⟩ := L1 (best := p.1) (i := x.toNat) (by omega)
    cases ok with
    | false =>
     rw [if_neg (by decide)] at hcl
     repeat' with_reducible first | refine W ?_ | refine Z0 ?_ | ((first | refine Wo fun K hK => ?_ | refine Wp ?_ | refine Wq ?_ | refine Wr ?_); (try simp only [go_sem, fN, seval, eT, iR, g1, g2, u1, u2, g3, g4, u17, g5, u20, g6, g7, g8, u8, g9, u9, u959, g10, g11, hjl, dT, dF, nL]); (repeat refine Ai ?_); (try (refine hK _ ?_; clear hK K)); try refine iC ?_)
     refine AB ⟨m.frm.length - (j + 1), by omega, j + 1, ts, false, by omega, rfl, by simpa using hcl, by omega, ?_⟩
     simp only [go_sem, fN, seval, eT, iR, g1, g2, u1, u2, g3, g4, u17, g5, u20, g6, g7, g8, u8, g9, u9, u959, g10, g11, AT]
     simp
    | true =>
     rw [if_pos rfl] at hcl
     obtain ⟨hcl, htl⟩ := hcl
     have hcs := EU (s := x) hcl
     rw [← Af hx, hod] at hcs
     cases o with
     | none =>
      have hcn := ER (AN hx) hod
      repeat' with_reducible first | refine W ?_ | refine Z0 ?_ | ((first | refine Wo fun K hK => ?_ | refine Wp ?_ | refine Wq ?_ | refine Wr ?_); (try simp only [go_sem, fN, seval, eT, iR, g1, g2, u1, u2, g3, g4, u17, g5, u20, g6, g7, g8, u8, g9, u9, u959, g10, g11, hjl, hx, ho, Db, Option.isSome_none, hpl, hts, dT, dF, nL]); (repeat refine Ai ?_); (try (refine hK _ ?_; clear hK K)); try refine iC ?_)
      refine AB ⟨m.frm.length - (j + 1), by omega, j + 1, ts, false, by omega, rfl, by simpa using hcn, by omega, ?_⟩
      simp only [go_sem, fN, seval, eT, iR, g1, g2, u1, u2, g3, g4, u17, g5, u20, g6, g7, g8, u8, g9, u9, u959, g10, g11, AT]
      simp
     | some t =>
      have htk : OkB t := hpo t (List.mem_of_getElem? ho)
      have b1 : ts.length + 1 ≤ maxLen := by
       rw [Ba]
       have := hok.2
       omega
      have b2 : (ts.length + 1) * 40 ≤ 140737488355328 := by
       have := hok.2
       omega
      repeat' with_reducible first | refine W ?_ | refine Z0 ?_ | ((first | refine Wo fun K hK => ?_ | refine Wp ?_ | refine Wq ?_ | refine Wr ?_); (try simp only [go_sem, fN, seval, eT, iR, g1, g2, u1, u2, g3, g4, u17, g5, u20, g6, g7, g8, u8, g9, u9, u959, g10, g11, hjl, hx, ho, Db, E5, Option.isSome_some, Option.getD_some, hpl, hts, hlen, b1, b2, dT, dF, nL]); (repeat refine Ai ?_); (try (refine hK _ ?_; clear hK K)); try refine iC ?_)
      refine AB ⟨m.frm.length - (j + 1), by omega, j + 1, ts ++ [t], true, by omega, rfl, ⟨hcs, by simp [htl]⟩, by simp [htl], ?_⟩
      simp only [go_sem, fN, seval, eT, iR, g1, g2, u1, u2, g3, g4, u17, g5, u20, g6, g7, g8, u8, g9, u9, u959, g10, g11, AT]
      simp [CG t]
   ·have hjm : j = m.frm.length := by omega
    cases ok with
    | false =>
     rw [if_neg (by decide)] at hcl
     have hcn : m.cand p.1 = none := by
      unfold Mv.cand
      rw [hcl]
     have hstep : A4 p m = p := by
      unfold A4 Be Mv.gain
      rw [hcn]
      simp
     rw [hstep] at hsn
     repeat' with_reducible first | refine W ?_ | refine Z0 ?_ | ((first | refine Wo fun K hK => ?_ | refine Wp ?_ | refine Wq ?_ | refine Wr ?_); (try simp only [go_sem, fN, seval, eT, iR, g1, g2, u1, u2, g3, g4, u17, g5, u20, g6, g7, g8, u8, g9, u9, u959, g10, g11, hjl, dT, dF, nL]); (repeat refine Ai ?_); (try (refine hK _ ?_; clear hK K)); try refine iC ?_)
     refine AB ⟨a.moves.length - (k + 1), by omega, k + 1, p, by omega, rfl, hsn.symm, ?_⟩
     simp only [go_sem, fN, seval, AS.drop, Ag, AC.clears, AC.clear, AC.highs, AC.high, Bool.not_false, Bool.true_and, Bool.and_self, AV.purge, AV.purges, AC.purge, AJ.purge, List.contains_cons, List.contains_nil, Nat.reduceBEq, Bool.or_self, Bool.or_false, Bool.false_or, Bool.or_true, eT, iR, g1, g2, u1, u2, g3, g4, u17, g5, u20, g6, g7, g8, u8, g9, u9, u959, AT]
     simp
    | true =>
    rw [if_pos rfl] at hcl
    obtain ⟨hcl, htl⟩ := hcl
    rw [hjm, List.take_of_length_le (Nat.le_refl _)] at hcl
    have hcd : m.cand p.1 = if (Tm.mk m.name ts).size ≤ 2000 then some (.mk m.name ts) else none := by
     unfold Mv.cand
     rw [hcl]
    have hS : AW Try.prog 20 [.agg [.st (.str m.name), .st (.list (ts.map BC))], AY 2000] (AY (A7 (Tm.mk m.name ts).size 2000)) := Ey (Tm.mk m.name ts) 2000 (by decide) (by decide)
    have hcand := fun (h : (Tm.mk m.name ts).size ≤ 2000) => F_ hpo hok (hcd.trans (if_pos h))
    have hLt : ∀ (b : Tm) (h : OkB (Tm.mk m.name ts)) (hb : OkB b), AW Try.prog 27 [.agg [.st (.str m.name), .st (.list (ts.map BC))], aTm b] (Al (CR (Tm.mk m.name ts) b)) := fun b h hb => IB _ b h hb
    have hn1 : (Tm.mk m.name ts).name = m.name := rfl
    have hn2 : (Tm.mk m.name ts).args = ts := rfl
    generalize Tm.mk m.name ts = t at *
    by_cases hbig : 2000 < t.size
    ·have hcap : (2000 : Int) < A7 t.size 2000 := by unfold A7; split <;> omega
     have hcn : m.cand p.1 = none := by rw [hcd, if_neg (by omega)]
     have hstep : A4 p m = p := by
      unfold A4 Be Mv.gain
      rw [hcn]
      simp
     rw [hstep] at hsn
     repeat' (first | (with_reducible first | refine W ?_ | refine Z0 ?_ | ((first | refine Wo fun K hK => ?_ | refine Wp ?_ | refine Wq ?_ | refine Wr ?_); (try simp only [go_sem, fN, seval, eT, iR, g1, g2, u1, u2, g3, g4, u17, g5, u20, g6, g7, g8, u8, g9, u9, u959, g10, g11, hjl, hlen, hcap, dT, dF, nL]); (repeat refine Ai ?_); (try (refine hK _ ?_; clear hK K)); try refine iC ?_)) | refine Cg _ (hS) ?_)
     refine AB ⟨a.moves.length - (k + 1), by omega, k + 1, p, by omega, rfl, hsn.symm, ?_⟩
     simp only [go_sem, fN, seval, AS.drop, Ag, AC.clears, AC.clear, AC.highs, AC.high, Bool.not_false, Bool.true_and, Bool.and_self, AV.purge, AV.purges, AC.purge, AJ.purge, List.contains_cons, List.contains_nil, Nat.reduceBEq, Bool.or_self, Bool.or_false, Bool.false_or, Bool.or_true, eT, iR, g1, g2, u1, u2, g3, g4, u17, g5, u20, g6, g7, g8, u8, g9, u9, u959, AT]
     simp
    ·have hcap : ¬ (2000 : Int) < A7 t.size 2000 := by unfold A7; split <;> omega
     have htk := hcand (by omega)
     rw [if_pos (by omega)] at hcd
     obtain ⟨o, ho, hod⟩ := L1 (best := p.1) (i := m.to_.toNat) (by omega)
     have hmd := Mo p.1 m.to_.toNat t
     have hmh := M_ p.1 m.to_.toNat t
     rw [hn1, hn2] at hmd
     cases o with
     | none =>
      have hgn : m.gain p.1 = some t := by
       unfold Mv.gain
       rw [hcd, hod]
      have hstep : A4 p m = (p.1.set m.to_.toNat (some t), true) := by
       unfold A4 Be
       rw [hgn]
       simp
      rw [hstep] at hsn
      repeat' (first | (with_reducible first | refine W ?_ | refine Z0 ?_ | ((first | refine Wo fun K hK => ?_ | refine Wp ?_ | refine Wq ?_ | refine Wr ?_); (try simp only [go_sem, fN, seval, eT, iR, g1, g2, u1, u2, g3, g4, u17, g5, u20, g6, g7, g8, u8, g9, u9, u959, g10, g11, hjl, hlen, hcap, ho, Db, E5, Option.isSome_none, hpl, hts, hmd, hmh, dT, dF, nL]); (repeat refine Ai ?_); (try (refine hK _ ?_; clear hK K)); try refine iC ?_)) | refine Cg _ (hS) ?_)
      refine AB ⟨a.moves.length - (k + 1), by omega, k + 1, _, by omega, rfl, hsn.symm, ?_⟩
      simp only [go_sem, fN, seval, AS.drop, Ag, AC.clears, AC.clear, AC.highs, AC.high, Bool.not_false, Bool.true_and, Bool.and_self, AV.purge, AV.purges, AC.purge, AJ.purge, List.contains_cons, List.contains_nil, Nat.reduceBEq, Bool.or_self, Bool.or_false, Bool.false_or, Bool.or_true, eT, iR, g1, g2, u1, u2, g3, g4, u17, g5, u20, g6, g7, g8, u8, g9, u9, u959, AT]
      simp [hmd, hmh]
     | some b =>
      have hbk : OkB b := hpo b (List.mem_of_getElem? ho)
      have hL := hLt b htk hbk
      cases hlb : CR t b with
      | true =>
       rw [hlb] at hL
       have hgn : m.gain p.1 = some t := by
        unfold Mv.gain
        rw [hcd, hod]
        simp [hlb]
       have hstep : A4 p m = (p.1.set m.to_.toNat (some t), true) := by
        unfold A4 Be
        rw [hgn]
        simp
       rw [hstep] at hsn
       repeat' (first | (with_reducible first | refine W ?_ | refine Z0 ?_ | ((first | refine Wo fun K hK => ?_ | refine Wp ?_ | refine Wq ?_ | refine Wr ?_); (try simp only [go_sem, fN, seval, eT, iR, g1, g2, u1, u2, g3, g4, u17, g5, u20, g6, g7, g8, u8, g9, u9, u959, g10, g11, hjl, hlen, hcap, ho, Db, E5, Option.isSome_some, Option.getD_some, hpl, hts, hmd, hmh, dT, dF, nL]); (repeat refine Ai ?_); (try (refine hK _ ?_; clear hK K)); try refine iC ?_)) | refine Cg _ (hS) ?_ | refine Cg _ (hL) ?_)
       refine AB ⟨a.moves.length - (k + 1), by omega, k + 1, _, by omega, rfl, hsn.symm, ?_⟩
       simp only [go_sem, fN, seval, AS.drop, Ag, AC.clears, AC.clear, AC.highs, AC.high, Bool.not_false, Bool.true_and, Bool.and_self, AV.purge, AV.purges, AC.purge, AJ.purge, List.contains_cons, List.contains_nil, Nat.reduceBEq, Bool.or_self, Bool.or_false, Bool.false_or, Bool.or_true, eT, iR, g1, g2, u1, u2, g3, g4, u17, g5, u20, g6, g7, g8, u8, g9, u9, u959, AT]
       simp [hmd, hmh]
      | false =>
       rw [hlb] at hL
       have hgn : m.gain p.1 = none := by
        unfold Mv.gain
        rw [hcd, hod]
        simp [hlb]
       have hstep : A4 p m = p := by
        unfold A4 Be
        rw [hgn]
        simp
       rw [hstep] at hsn
       repeat' (first | (with_reducible first | refine W ?_ | refine Z0 ?_ | ((first | refine Wo fun K hK => ?_ | refine Wp ?_ | refine Wq ?_ | refine Wr ?_); (try simp only [go_sem, fN, seval, eT, iR, g1, g2, u1, u2, g3, g4, u17, g5, u20, g6, g7, g8, u8, g9, u9, u959, g10, g11, hjl, hlen, hcap, ho, Db, E5, Option.isSome_some, Option.getD_some, hpl, hts, dT, dF, nL]); (repeat refine Ai ?_); (try (refine hK _ ?_; clear hK K)); try refine iC ?_)) | refine Cg _ (hS) ?_ | refine Cg _ (hL) ?_)
       refine AB ⟨a.moves.length - (k + 1), by omega, k + 1, p, by omega, rfl, hsn.symm, ?_⟩
       simp only [go_sem, fN, seval, AS.drop, Ag, AC.clears, AC.clear, AC.highs, AC.high, Bool.not_false, Bool.true_and, Bool.and_self, AV.purge, AV.purges, AC.purge, AJ.purge, List.contains_cons, List.contains_nil, Nat.reduceBEq, Bool.or_self, Bool.or_false, Bool.false_or, Bool.or_true, eT, iR, g1, g2, u1, u2, g3, g4, u17, g5, u20, g6, g7, g8, u8, g9, u9, u959, AT]
       simp
  ·rw [List.take_of_length_le (l := a.moves) (i := k) (by omega)] at hp
   have hpp : p = Ek a.moves best0 := hp
   have hpo : Dj p.1 := by rw [hp]; exact CJ hob hmv
   have hpl : p.1.length = a.states.toNat := by rw [hp, Bn]; exact hbl
   obtain ⟨b, more⟩ := p
   simp only at t17 t20 f6 hpo hpl
   repeat' with_reducible first | refine W ?_ | refine Z0 ?_ | ((first | refine Wo fun K hK => ?_ | refine Wp ?_ | refine Wq ?_ | refine Wr ?_); (try simp only [go_sem, fN, seval, eT, iR, f1, f2, t1, t2, f3, f4, t17, f5, t20, f6, f7, t8, t9, t959, hlt, dT, dF, nL]); (repeat refine Ai ?_); (try (refine hK _ ?_; clear hK K)); try refine iC ?_)
   cases n with
   | zero =>
    have h0 : Ek a.moves best0 = (out, false) := hends
    rw [← hpp] at h0
    cases h0
    refine AB ⟨0, by simp, 0, false, out, by simp, by simp, hpo, hpl, ?_⟩
    simp only [go_sem, fN, seval, AS.drop, Ag, AC.clears, AC.clear, AC.highs, AC.high, Bool.not_false, Bool.true_and, Bool.and_self, AV.purge, AV.purges, AC.purge, AJ.purge, List.contains_cons, List.contains_nil, Nat.reduceBEq, Bool.or_self, Bool.or_false, Bool.false_or, Bool.or_true, eT, iR, f1, f2, t1, t2, f3, f4, t17, f5, t20, f6, f7, t8, t9, t959, AT]
   | succ n =>
    obtain ⟨q1, q2⟩ := hends
    rw [← hpp] at q1 q2
    simp only at q1 q2
    subst q1
    refine AB ⟨n + 1, by simp, n, true, b, by simp, by simpa using q2, hpo, hpl, ?_⟩
    simp only [go_sem, fN, seval, AS.drop, Ag, AC.clears, AC.clear, AC.highs, AC.high, Bool.not_false, Bool.true_and, Bool.and_self, AV.purge, AV.purges, AC.purge, AJ.purge, List.contains_cons, List.contains_nil, Nat.reduceBEq, Bool.or_self, Bool.or_false, Bool.false_or, Bool.or_true, eT, iR, f1, f2, t1, t2, f3, f4, t17, f5, t20, f6, f7, t8, t9, t959, AT]

theorem OT (a : Au) (h : ¬ a.may 8 40 = 0) : AW Try.prog 13 [aAu a] (.tup [aTm Tm.nil, AY (a.may 8 40)]) := by
 refine Ez.ac fun C hC => ?_
 unfold DO
 repeat' (first | (with_reducible first | refine W ?_ | refine Z0 ?_ | ((first | refine Wo fun K hK => ?_ | refine Wp ?_ | refine Wq ?_ | refine Wr ?_); (try simp only [go_sem, fN, seval, eT, iR, h, dT, dF, nL]); (repeat refine Ai ?_); (try (refine hK _ ?_; clear hK K)); try refine iC ?_)) | refine Cg _ (Bo a) ?_)
 simp only [go_sem, fN, seval, AR, AS.result, AF, AG, AQ]
 rfl
theorem D6 (e : Int) (h : ¬ e = 0) : AW Try.prog 15 [aTm Tm.nil, AY e, aTm Tm.nil, AY e] (Al true) := by
 have h1 := LI Tm.nil Tm.nil e e
 rw [Gd Tm.nil e e (fun _ => rfl) rfl] at h1
 exact h1
theorem GO (t : Tm) : AW Try.prog 15 [aTm t, AY 0, aTm t, AY 0] (Al true) := by
 have h1 := LI t t 0 0
 rw [Gd t 0 0 (fun h => absurd rfl h) rfl] at h1
 exact h1
set_option maxRecDepth 100000 in
theorem Kb (a : Au) (t : Tm) : AW Try.prog 3 [aAu a, aTm t] (Al true) := by
 by_cases q1 : a.huge = true
 ·refine A1.ac fun C hC => ?_
  unfold At
  repeat' (first | (with_reducible first | refine W ?_ | refine Z0 ?_ | ((first | refine Wo fun K hK => ?_ | refine Wp ?_ | refine Wq ?_ | refine Wr ?_); (try simp only [go_sem, fN, seval, eT, iR, q1, dT, dF, nL]); (repeat refine Ai ?_); (try (refine hK _ ?_; clear hK K)); try refine iC ?_)) | refine Cg _ (BN a) ?_)
  simp only [go_sem, fN, seval, AR, AS.result, AF, AG, AQ]
 by_cases q2 : 3000 < t.size
 ·have hq : decide (3000 < t.size) = true := by simpa using q2
  refine A1.ac fun C hC => ?_
  unfold At
  repeat' (first | (with_reducible first | refine W ?_ | refine Z0 ?_ | ((first | refine Wo fun K hK => ?_ | refine Wp ?_ | refine Wq ?_ | refine Wr ?_); (try simp only [go_sem, fN, seval, eT, iR, q1, hq, dT, dF, nL]); (repeat refine Ai ?_); (try (refine hK _ ?_; clear hK K)); try refine iC ?_)) | refine Cg _ (BN a) ?_ | refine Cg _ (Dq t) ?_)
  simp only [go_sem, fN, seval, AR, AS.result, AF, AG, AQ]
 have hq : decide (3000 < t.size) = false := by simpa using q2
 have hla : a.last.length ≤ 100 := by
  simp only [Au.huge, Bool.or_eq_true, decide_eq_true_eq, not_or] at q1
  omega
 have hCk := Bo a
 have hA := Ly a t (by omega) (by omega)
 by_cases h1 : a.may 8 40 = 0
 case neg =>
  have e : Dy a t = a.may 8 40 := if_neg h1
  rw [e] at hA
  have hA' : AW Try.prog 12 [aAu a, aTm t] (.tup [Al false, AY (a.may 8 40)]) := by
   have h2 : (decide (a.may 8 40 = 0) && a.acc t) = false := by simp [h1]
   rwa [h2] at hA
  have hS := OT a h1
  have hT := D6 _ h1
  have hM := H8 a 8 40
  clear hA
  generalize a.may 8 40 = e at *
  refine A1.ac fun C hC => ?_
  unfold At
  repeat' (first | (with_reducible first | refine W ?_ | refine Z0 ?_ | ((first | refine Wo fun K hK => ?_ | refine Wp ?_ | refine Wq ?_ | refine Wr ?_); (try simp only [go_sem, fN, seval, eT, iR, q1, hq, h1, Tm.nil, Do, Fi, dT, dF, nL]); (repeat refine Ai ?_); (try (refine hK _ ?_; clear hK K)); try refine iC ?_)) | refine Cg _ (BN a) ?_ | refine Cg _ (Dq t) ?_ | refine Cg _ (hM) ?_ | refine Cg _ (hA') ?_ | refine Cg _ (hS) ?_ | refine Cg _ (hCk) ?_ | refine Cg _ (hT) ?_)
  simp only [go_sem, fN, seval, AR, AS.result, AF, AG, AQ]
 case pos =>
 have ga := Au.may_good h1
 obtain ⟨a1, _, _⟩ := Au.may_ok.1 h1
 obtain ⟨n, out, hout⟩ := OR h1
 have hS := Nr a (by omega) h1 hout
 have hR := OM a (by omega) h1 hout
 have hM := H8 a 8 40
 have hV := NL t (by omega)
 have hQ := Lj t
 have hO := Jj a ga (by omega) (by omega) t (by omega)
 have e1 : Dy a t = if t.may = 0 then (if t.varsOf.length = 0 then 0 else 15) else t.may := if_pos h1
 rw [h1] at hM hCk
 generalize Cc out a.last = o at hS hR
 by_cases h2 : t.may = 0
 case neg =>
  rw [if_neg h2] at e1
  rw [e1] at hA
  have hA' : AW Try.prog 12 [aAu a, aTm t] (.tup [Al false, AY t.may]) := by
   have h3 : (decide (t.may = 0) && a.acc t) = false := by simp [h2]
   rwa [h3] at hA
  cases o with
  | none =>
   refine A1.ac fun C hC => ?_
   unfold At
   repeat' (first | (with_reducible first | refine W ?_ | refine Z0 ?_ | ((first | refine Wo fun K hK => ?_ | refine Wp ?_ | refine Wq ?_ | refine Wr ?_); (try simp only [go_sem, fN, seval, eT, iR, q1, hq, h2, Do, Fi, dT, dF, nL]); (repeat refine Ai ?_); (try (refine hK _ ?_; clear hK K)); try refine iC ?_)) | refine Cg _ (BN a) ?_ | refine Cg _ (Dq t) ?_ | refine Cg _ (hM) ?_ | refine Cg _ (hQ) ?_ | refine Cg _ (hR) ?_ | refine Cg _ (hA') ?_ | refine Cg _ (hS) ?_ | refine Cg _ (hCk) ?_ | refine Cg _ (D6 7 (by decide)) ?_)
   simp only [go_sem, fN, seval, AR, AS.result, AF, AG, AQ]
  | some x =>
   refine A1.ac fun C hC => ?_
   unfold At
   repeat' (first | (with_reducible first | refine W ?_ | refine Z0 ?_ | ((first | refine Wo fun K hK => ?_ | refine Wp ?_ | refine Wq ?_ | refine Wr ?_); (try simp only [go_sem, fN, seval, eT, iR, q1, hq, h2, Do, Fi, dT, dF, nL]); (repeat refine Ai ?_); (try (refine hK _ ?_; clear hK K)); try refine iC ?_)) | refine Cg _ (BN a) ?_ | refine Cg _ (Dq t) ?_ | refine Cg _ (hM) ?_ | refine Cg _ (hQ) ?_ | refine Cg _ (hR) ?_ | refine Cg _ (hA') ?_ | refine Cg _ (hS) ?_ | refine Cg _ (hCk) ?_ | refine Cg _ (GO x) ?_)
   simp only [go_sem, fN, seval, AR, AS.result, AF, AG, AQ]
 case pos =>
 rw [if_pos h2] at e1
 rw [h2] at hQ
 by_cases h3 : t.varsOf.length = 0
 case neg =>
  rw [if_neg h3] at e1
  rw [e1] at hA
  have h3' : (0 : Int) < t.varsOf.length := by omega
  have hA' : AW Try.prog 12 [aAu a, aTm t] (.tup [Al false, AY 15]) := hA
  cases o with
  | none =>
   refine A1.ac fun C hC => ?_
   unfold At
   repeat' (first | (with_reducible first | refine W ?_ | refine Z0 ?_ | ((first | refine Wo fun K hK => ?_ | refine Wp ?_ | refine Wq ?_ | refine Wr ?_); (try simp only [go_sem, fN, seval, eT, iR, q1, hq, h3', Do, Fi, dT, dF, nL]); (repeat refine Ai ?_); (try (refine hK _ ?_; clear hK K)); try refine iC ?_)) | refine Cg _ (BN a) ?_ | refine Cg _ (Dq t) ?_ | refine Cg _ (hM) ?_ | refine Cg _ (hQ) ?_ | refine Cg _ (hV) ?_ | refine Cg _ (hR) ?_ | refine Cg _ (hA') ?_ | refine Cg _ (hS) ?_ | refine Cg _ (hCk) ?_ | refine Cg _ (D6 7 (by decide)) ?_)
   simp only [go_sem, fN, seval, AR, AS.result, AF, AG, AQ]
  | some x =>
   refine A1.ac fun C hC => ?_
   unfold At
   repeat' (first | (with_reducible first | refine W ?_ | refine Z0 ?_ | ((first | refine Wo fun K hK => ?_ | refine Wp ?_ | refine Wq ?_ | refine Wr ?_); (try simp only [go_sem, fN, seval, eT, iR, q1, hq, h3', Do, Fi, dT, dF, nL]); (repeat refine Ai ?_); (try (refine hK _ ?_; clear hK K)); try refine iC ?_)) | refine Cg _ (BN a) ?_ | refine Cg _ (Dq t) ?_ | refine Cg _ (hM) ?_ | refine Cg _ (hQ) ?_ | refine Cg _ (hV) ?_ | refine Cg _ (hR) ?_ | refine Cg _ (hA') ?_ | refine Cg _ (hS) ?_ | refine Cg _ (hCk) ?_ | refine Cg _ (GO x) ?_)
   simp only [go_sem, fN, seval, AR, AS.result, AF, AG, AQ]
 case pos =>
 rw [if_pos h3] at e1
 rw [e1] at hA
 have h3' : ¬ (0 : Int) < t.varsOf.length := by omega
 have hA' : AW Try.prog 12 [aAu a, aTm t] (.tup [Al (a.acc t), AY 0]) := by
  have h4 : (decide ((0 : Int) = 0) && a.acc t) = a.acc t := by simp
  rwa [h4] at hA
 cases o with
 | none =>
  refine A1.ac fun C hC => ?_
  unfold At
  repeat' (first | (with_reducible first | refine W ?_ | refine Z0 ?_ | ((first | refine Wo fun K hK => ?_ | refine Wp ?_ | refine Wq ?_ | refine Wr ?_); (try simp only [go_sem, fN, seval, eT, iR, q1, hq, h3', Do, Fi, beq_self_eq_true, dT, dF, nL]); (repeat refine Ai ?_); (try (refine hK _ ?_; clear hK K)); try refine iC ?_)) | refine Cg _ (BN a) ?_ | refine Cg _ (Dq t) ?_ | refine Cg _ (hM) ?_ | refine Cg _ (hQ) ?_ | refine Cg _ (hV) ?_ | refine Cg _ (hO) ?_ | refine Cg _ (hR) ?_ | refine Cg _ (hA') ?_ | refine Cg _ (hS) ?_ | refine Cg _ (hCk) ?_ | refine Cg _ (D6 7 (by decide)) ?_)
  simp only [go_sem, fN, seval, AR, AS.result, AF, AG, AQ]
 | some x =>
  refine A1.ac fun C hC => ?_
  unfold At
  repeat' (first | (with_reducible first | refine W ?_ | refine Z0 ?_ | ((first | refine Wo fun K hK => ?_ | refine Wp ?_ | refine Wq ?_ | refine Wr ?_); (try simp only [go_sem, fN, seval, eT, iR, q1, hq, h3', Do, Fi, beq_self_eq_true, dT, dF, nL]); (repeat refine Ai ?_); (try (refine hK _ ?_; clear hK K)); try refine iC ?_)) | refine Cg _ (BN a) ?_ | refine Cg _ (Dq t) ?_ | refine Cg _ (hM) ?_ | refine Cg _ (hQ) ?_ | refine Cg _ (hV) ?_ | refine Cg _ (hO) ?_ | refine Cg _ (hR) ?_ | refine Cg _ (hA') ?_ | refine Cg _ (hS) ?_ | refine Cg _ (hCk) ?_ | refine Cg _ (GO x) ?_)
  simp only [go_sem, fN, seval, AR, AS.result, AF, AG, AQ]

open Go.ChangeShapes Go.WideShapes Go.ChangeAt
section
variable {H : Type} {enc : TypeId × Value → H} {P : Program}
theorem EN (hl : laidOutB P = true) : ∀ {ts : List TypeId} {vs : List Value} {ds : List (DataW H)} {ps : List MemPlace} {W W' : World} {sp : Nat → Bool},
  (∀ t ∈ ts, P.readableRec t = true ∧ t < P.types.size) → DataW.TrodAll enc P W 0 (fun _ => true) true ts vs ds ps → (∀ p ∈ ps, W.sameAt W' p) → (∀ p ∈ ps, sp p.block = true) → DataW.TrodAll enc P W' 0 sp true ts vs ds ps
 | [], [], [], _, _, _, _, _, h, _, _ => h
 | _ :: _, _ :: _, _ :: _, _, _, _, _, hT, ⟨p, q, h1, h2, e⟩, hsame, hs => ⟨p, q, WideElems.Trod_stays hl (hT _ (List.mem_cons.2 (Or.inl rfl))).1 (hT _ (List.mem_cons.2 (Or.inl rfl))).2 h1 (fun x hx => hsame x (by rw [e]; exact List.mem_append_left _ hx)) (fun x hx => hs x (by rw [e]; exact List.mem_append_left _ hx)),
   EN hl (fun t ht => hT t (List.mem_cons.2 (Or.inr ht))) h2 (fun x hx => hsame x (by rw [e]; exact List.mem_append_right _ hx)) (fun x hx => hs x (by rw [e]; exact List.mem_append_right _ hx)), e⟩
 | [], _ :: _, _, _, _, _, _, _, h, _, _ => h.elim
 | [], [], _ :: _, _, _, _, _, _, h, _, _ => h.elim
 | _ :: _, [], _, _, _, _, _, _, h, _, _ => h.elim
 | _ :: _, _ :: _, [], _, _, _, _, _, h, _, _ => h.elim
theorem Ms {f : Func} {s : ChangeSpec} {apart fresh handsOn : Bool} {W W' : World} {args : Array Value} {ds : List (DataW H)} {before : List MemPlace} {tb : TypeId}
  (hW : DataW.Whole enc P f.params.toList s.vars apart W args.toList ds [] before) (hv : s.vars = []) (hr : f.resultTypes = #[tb]) (htb : P.underlying tb = some .bool)
  (hres : (s.fn H (ds ++ [])).results = [.lit (.bool true)]) (hargs : (s.fn H (ds ++ [])).args = ds) (hvs : (s.fn H (ds ++ [])).vars = [])
  (hl : laidOutB P = true) (hT : (f.params.toList.all fun t => P.readableRec t && decide (t < P.types.size)) = true) (hb : Below W.heap.size W W') :
  s.post enc P f apart fresh handsOn false W args (.bool true) W' := by
 have hlt : ∀ p ∈ before, p.block < W.heap.size := fun p hp => hW.lt p hp
 have hT' : ∀ t ∈ f.params.toList, P.readableRec t = true ∧ t < P.types.size := fun t ht => by
  have := List.all_eq_true.1 hT t ht
  simpa using this
 obtain ⟨p, q, hA, hV, rfl, hz, hn⟩ := hW
 rw [hv] at hV
 obtain ⟨_, rfl⟩ := trodVars_none hV
 have hargs' : ∀ sp : Nat → Bool, (∀ x ∈ p, sp x.block = true) → DataW.TrodAll enc P W' 0 sp true f.params.toList args.toList ds p := fun sp hsp =>
  EN hl hT' hA (fun x hx => hb.same (hlt x (by simpa using hx))) hsp
 have hres' : ∀ (b : Nat) (sp : Nat → Bool) (hd : Bool), DataW.TrodAll enc P W' b sp hd f.resultTypes.toList ((Value.bool true).resultList f.resultTypes.size) (s.fn H (ds ++ [])).results [] := fun b sp hd => by
  rw [hres, hr]
  exact trodAll_cons_mk (shut_bool htb true) trodAll_mk0
 refine ⟨ds, [], p ++ [], [], p, [], ⟨p, [], hA, by rw [hv]; exact rfl, rfl, hz, hn⟩, hres' _ _ _, by rw [hargs]; exact hargs' _ (fun x hx => by simpa using hlt x (by simpa using hx)), by rw [hv, hvs]; exact rfl,
  World.keptBut_mono (fun x hx => ⟨hx, Or.inr (by simpa using hx)⟩) (hb.frame (· ∈ p ++ [])), fun h => by cases h⟩
variable {W : World} {sp : Nat → Bool} {hd : Bool} {base : Nat}
def sto (W : World) : Sto := B4 W
theorem OH (W : World) : Fit (sto W) W := fun _ _ h => h
theorem IA {W : World} {a : Addr} {v : Value} (h : W.cell? a = some v) : a.spot = none := by
 cases hs : a.spot with
 | none => rfl
 | some n =>
  unfold World.cell? at h
  split at h
  ·simp [hs] at h
  ·cases h
theorem Jb {α : Type} {p : Nat → α → Prop} {n : Nat} (h : ∀ i, i < n → ∃ b, p i b) : ∃ xs : List α, xs.length = n ∧ ∀ i (h : i < xs.length), p i xs[i] := by
 induction n with
 | zero => exact ⟨[], rfl, fun i h => absurd h (by simp)⟩
 | succ m ih =>
  obtain ⟨xs, h1, h2⟩ := ih (fun i hi => h i (by omega))
  obtain ⟨b, h3⟩ := h m (by omega)
  refine ⟨xs ++ [b], by simp [h1], fun i hi => ?_⟩
  by_cases him : i < xs.length
  ·rw [List.getElem_append_left him]
   exact h2 i him
  ·have : i = xs.length := by simp at hi; omega
   subst this
   rw [show (xs ++ [b])[xs.length]'hi = b by simp, h1]
   exact h3
theorem NP {t : TypeId} {f0 f1 : Field} {k0 k1 : Nat} {fuel : Nat} {cs : List Value} {x : DataW H × List MemPlace} (hs : P.underlying t = some (.struct #[f0, f1])) (o0 : f0.offset = 0) (o1 : f1.offset = k0)
  (h0 : P.cellsOf f0.type = k0) (h1 : P.cellsOf f1.type = k1) (hC : P.cellsOf t = k0 + k1) (h : DataW.trod enc P W base sp hd fuel t cs = some x) :
  ∃ (a b : List Value) (y0 y1 : DataW H × List MemPlace) (n : Nat), fuel = n + 1 ∧ cs = a ++ b ∧ DataW.trod enc P W base sp hd n f0.type a = some y0 ∧ DataW.trod enc P W base sp hd n f1.type b = some y1 := by
 obtain ⟨ys, n, hn, _, hlen, hyl, hf⟩ := DataW.trod_struct hs h
 match ys, hyl with
 | [y0, y1], _ =>
 have g0 := hf 0 f0 rfl
 have g1 := hf 1 f1 rfl
 rw [o0, h0, List.drop_zero] at g0
 rw [o1, h1, List.take_of_length_le (by rw [List.length_drop]; omega)] at g1
 exact ⟨_, _, y0, y1, n, hn, (List.take_append_drop k0 cs).symm, g0, g1⟩
theorem Ga {t : TypeId} {f0 f1 f2 : Field} {k0 k1 k2 : Nat} {fuel : Nat} {cs : List Value} {x : DataW H × List MemPlace} (hs : P.underlying t = some (.struct #[f0, f1, f2])) (o0 : f0.offset = 0) (o1 : f1.offset = k0) (o2 : f2.offset = k0 + k1)
  (h0 : P.cellsOf f0.type = k0) (h1 : P.cellsOf f1.type = k1) (h2 : P.cellsOf f2.type = k2) (hC : P.cellsOf t = k0 + k1 + k2) (h : DataW.trod enc P W base sp hd fuel t cs = some x) :
  ∃ (a b c : List Value) (y0 y1 y2 : DataW H × List MemPlace) (n : Nat), fuel = n + 1 ∧ cs = a ++ (b ++ c) ∧ DataW.trod enc P W base sp hd n f0.type a = some y0 ∧ DataW.trod enc P W base sp hd n f1.type b = some y1 ∧ DataW.trod enc P W base sp hd n f2.type c = some y2 := by
 obtain ⟨ys, n, hn, _, hlen, hyl, hf⟩ := DataW.trod_struct hs h
 match ys, hyl with
 | [y0, y1, y2], _ =>
 have g0 := hf 0 f0 rfl
 have g1 := hf 1 f1 rfl
 have g2 := hf 2 f2 rfl
 rw [o0, h0, List.drop_zero] at g0
 rw [o1, h1] at g1
 rw [o2, h2, List.take_of_length_le (by rw [List.length_drop]; omega), ← List.drop_drop] at g2
 exact ⟨_, _, _, y0, y1, y2, n, hn, by rw [List.take_append_drop, List.take_append_drop], g0, g1, g2⟩
theorem CV {α : Type} {e0 : α → List SV} {t e : TypeId} {k : Nat} {fuel : Nat} {cs : List Value} {x : DataW H × List MemPlace} (ht : P.underlying t = some (.slice e)) (hc : P.cellsOf e = k) (hlen : ∀ a, (e0 a).length = k) (hk : 0 < k)
  (f : ∀ (n : Nat) (cs : List Value) (y : DataW H × List MemPlace), n < fuel → DataW.trod enc P W base sp hd n e cs = some y → ∃ a : α, AU (Ae (sto W)) cs (e0 a))
  (h : DataW.trod enc P W base sp hd fuel t cs = some x) (hs : BO = true → k < 2 := by decide) : ∃ xs : List α, AU (Ae (sto W)) cs [.list (xs.map e0)] := by
 rcases DataW.trod_slice ht h with ⟨rfl, _⟩ | ⟨a, len, cap, CL, rest, n, hfu, rfl, _, hb, hl, hm, hlen', hel, _, _⟩
 ·exact ⟨[], .cons Jh .nil⟩
 ·have key : ∀ i, i < len → ∃ (b : α), ∃ (cs' : List Value), cs'.length = k ∧ (∀ j u, cs'[j]? = some u → W.cell? ((a.add (i * k)).add j) = some u) ∧ AU (Ae (sto W)) cs' (e0 b) := fun i hi => by
   have h1 := hel i hi
   rw [List.getElem?_eq_getElem (by omega)] at h1
   obtain ⟨cs', h2, h3⟩ := Option.bind_eq_some_iff.1 h1
   obtain ⟨_, h4, h5⟩ := World.cells?_some h2
   obtain ⟨b, hb⟩ := f n cs' _ (by omega) h3
   rw [hc] at h4 h5
   refine ⟨b, cs', h4, fun j u hj => ?_, hb⟩
   rw [h5 j (by have := (List.getElem?_eq_some_iff.1 hj).1; omega)]
   exact hj
  obtain ⟨xs, hxl, hxs⟩ : ∃ xs : List α, xs.length = len ∧ ∀ i (h : i < xs.length), ∃ cs' : List Value, cs'.length = k ∧ (∀ j u, cs'[j]? = some u → W.cell? ((a.add (i * k)).add j) = some u) ∧ AU (Ae (sto W)) cs' (e0 xs[i]) := Jb key
  have cell : ∀ m y j z, (xs.map e0)[m]? = some y → y[j]? = some z → ∃ v, W.cell? ⟨a.block, a.off + m * k + j, none⟩ = some v ∧ Ae (sto W) v z := fun m y j z hy hz => by
   rw [List.getElem?_map, Option.map_eq_some_iff] at hy
   obtain ⟨b, hb', rfl⟩ := hy
   obtain ⟨hm', hbe⟩ := List.getElem?_eq_some_iff.1 hb'
   obtain ⟨cs', c1, c2, c3⟩ := hxs m hm'
   rw [hbe] at c3
   obtain ⟨v, v1, v2⟩ := c3.get hz
   refine ⟨v, ?_, v2⟩
   have := c2 j v v1
   have hsp := IA this
   rw [← this]
   congr 1
   have h7 : ((a.add (m * k)).add j).block = a.block ∧ ((a.add (m * k)).add j).off = a.off + m * k + j := by
    unfold Addr.add
    split <;> split <;> simp_all
   generalize (a.add (m * k)).add j = q at *
   cases q
   simp_all
  refine ⟨xs, .cons (.list (b := a.block) (o := a.off) (w := k) (fun m j => (W.cell? ⟨a.block, a.off + m * k + j, none⟩).getD undef) (by simp [hxl]) hl hm (by simp) (fun h0 => ?_) (fun y hy => ?_) (fun q1 q2 _ => absurd (hs q1) (by omega)) (fun m y j z hy hz => ?_) (fun m y j z hy hz => ?_)) .nil⟩
  ·obtain ⟨cs', h1, h2, h3⟩ := hxs 0 (by omega)
   have h4 : W.cell? a = some (cs'[0]'(by omega)) := by
    have := h2 0 _ (List.getElem?_eq_getElem (by omega))
    simpa [Addr.add] using this
   have := IA h4
   cases a
   simp_all
  ·obtain ⟨b, _, rfl⟩ := List.mem_map.1 hy
   exact hlen b
  ·obtain ⟨v, v1, v2⟩ := cell m y j z hy hz
   show W.cell? _ = _
   rw [v1]; rfl
  ·obtain ⟨v, v1, v2⟩ := cell m y j z hy hz
   rw [v1]; exact v2
theorem E_ {t : TypeId} (ht : P.underlying t = some (.int .i64)) (fuel : Nat) (cs : List Value) (x : DataW H × List MemPlace) (h : DataW.trod enc P W base sp hd fuel t cs = some x) : ∃ n : Int, AU (Ae (sto W)) cs (CU n) := by
 obtain ⟨n, rfl, _, hn⟩ := DataW.trod_int ht h
 exact ⟨n, .cons (.int (by rw [Kx]; simpa [Lit.wf, IntKind.min, IntKind.max, IntKind.signed, IntKind.bits] using hn)) .nil⟩
theorem Js {t : TypeId} (ht : P.underlying t = some .string) (fuel : Nat) (cs : List Value) (x : DataW H × List MemPlace) (h : DataW.trod enc P W base sp hd fuel t cs = some x) : ∃ s : ByteArray, AU (Ae (sto W)) cs (C_ s) := by
 obtain ⟨s, rfl, _, hs⟩ := DataW.trod_string ht h
 exact ⟨s, .cons (.str hs) .nil⟩
theorem GL {α : Type} {e0 : α → List SV} {t : TypeId} {fs : Array Field} (ht : P.underlying t = some (.struct fs)) {r : Reach} {b0 : Nat} {v : Value} {d : DataW H} {p : List MemPlace} (hv : Value.okWide P W r b0 t v)
  (f : ∀ (n : Nat) (cs : List Value) (y : DataW H × List MemPlace), DataW.trod enc P W base sp hd n t cs = some y → ∃ a : α, AU (Ae (sto W)) cs (e0 a)) (h : DataW.Trod enc P W base sp hd t v d p) : ∃ a : α, AM (sto W) noS noH v (.agg ((e0 a).map .st)) := by
 obtain ⟨cs, rfl, hsz⟩ := okWide_struct ht hv
 obtain ⟨fuel, hf⟩ := h
 obtain ⟨a, ha⟩ := f fuel _ _ hf
 exact ⟨a, .agg ((AU.mono (fun _ _ h => .st h) ha).map_right)⟩
end
theorem KN {σ : Sto} (h : I2 = [] := by rfl) : Bc σ := fun x hx => by simp [h] at hx
theorem Jd {P : Program} {f : FuncId} {xs : List AV} {b : Bool} (h : AW P f xs (Al b)) {σ : Sto} {w : World} {vs : List Value} (hg : Bc σ) (hf : Fit σ w) (hv : AU (AM σ noS noH) vs xs) :
  Calls P f vs.toArray w fun e w' => e = .returned (.bool b) ∧ Below w.heap.size w w' := (h σ w vs hg hf hv).mono fun e w' ⟨v, σ', he, hv, _, _, hb⟩ => by
 rw [B_ hv] at he
 exact ⟨he, hb⟩

section
variable {H : Type} {enc : TypeId × Value → H} {W : World} {sp : Nat → Bool} {hd : Bool} {base : Nat}
set_option maxRecDepth 100000 in
theorem Nx : ∀ (fuel : Nat) (cs : List Value) (x : DataW H × List MemPlace), DataW.trod enc Try.prog W base sp hd fuel 28 cs = some x → ∃ t : Tm, AU (Ae (sto W)) cs (BC t) := by
 intro fuel
 induction fuel using Nat.strongRecOn with
 | _ fuel ih =>
 intro cs x h
 obtain ⟨a, b, y0, y1, n, hn, rfl, h0, h1⟩ := NP Try.underlying28 rfl rfl (show Try.prog.cellsOf 9 = 1 by kernel_rfl) (show Try.prog.cellsOf 26 = 1 by kernel_rfl) (show Try.prog.cellsOf 28 = 2 by kernel_rfl) h
 obtain ⟨s, hs⟩ := Js Try.underlying9 _ _ _ h0
 obtain ⟨xs, hxs⟩ := CV (e0 := BC) Try.underlying26 (show Try.prog.cellsOf 28 = 2 by kernel_rfl) (fun a => by rw [CG]; rfl) (by decide) (fun m cs y hm hy => ih m (by omega) cs y hy) h1
 exact ⟨.mk s xs, by rw [CG]; exact hs.append hxs⟩
set_option maxRecDepth 100000 in
theorem Ow {r : Reach} {b0 : Nat} {v : Value} {d : DataW H} {p : List MemPlace} (hv : Value.okWide Try.prog W r b0 28 v) (h : DataW.Trod enc Try.prog W base sp hd 28 v d p) : ∃ t : Tm, AM (sto W) noS noH v (aTm t) := by
 obtain ⟨t, ht⟩ := GL Try.underlying28 hv Nx h
 exact ⟨t, by rw [CG] at ht; exact ht⟩
end

end Go.Proofs.Ytbknconogoegaaa
namespace Go.Proofs.Ytbknconogoegaaa.autoSays
open Go Go.RowKit Go.ChangeShapes Go.WideShapes Go.ChangeAt
set_option linter.unusedVariables false
def Oy (a : Au) : List SV := [.int .i64 a.states, .list (a.moves.map A0), .list (a.last.map CU)]
section
variable {H : Type} {enc : TypeId × Value → H} {W : World} {sp : Nat → Bool} {hd : Bool} {base : Nat}
theorem OE (fuel : Nat) (cs : List Value) (x : DataW H × List MemPlace) (h : DataW.trod enc Try.prog W base sp hd fuel 50 cs = some x) : ∃ m : Mv, AU (Ae (sto W)) cs (A0 m) := by
 obtain ⟨a, b, c, y0, y1, y2, n, hn, rfl, h0, h1, h2⟩ := Ga Try.underlying50 rfl rfl rfl (show Try.prog.cellsOf 9 = 1 by kernel_rfl) (show Try.prog.cellsOf 23 = 1 by kernel_rfl) (show Try.prog.cellsOf 3 = 1 by kernel_rfl) (show Try.prog.cellsOf 50 = 3 by kernel_rfl) h
 obtain ⟨s, hs⟩ := Js Try.underlying9 _ _ _ h0
 obtain ⟨l, hl⟩ := CV (e0 := CU) (k := 1) Try.underlying23 (by kernel_rfl) (fun _ => rfl) (by decide) (fun m cs y _ hy => E_ Try.underlying3 m cs y hy) h1
 obtain ⟨k, hk⟩ := E_ Try.underlying3 _ _ _ h2
 exact ⟨⟨s, l, k⟩, hs.append (hl.append hk)⟩
theorem N2 (fuel : Nat) (cs : List Value) (x : DataW H × List MemPlace) (h : DataW.trod enc Try.prog W base sp hd fuel 25 cs = some x) : ∃ a : Au, AU (Ae (sto W)) cs (Oy a) := by
 obtain ⟨a, b, c, y0, y1, y2, n, hn, rfl, h0, h1, h2⟩ := Ga Try.underlying25 rfl rfl rfl (show Try.prog.cellsOf 3 = 1 by kernel_rfl) (show Try.prog.cellsOf 22 = 1 by kernel_rfl) (show Try.prog.cellsOf 23 = 1 by kernel_rfl) (show Try.prog.cellsOf 25 = 3 by kernel_rfl) h
 obtain ⟨k, hk⟩ := E_ Try.underlying3 _ _ _ h0
 obtain ⟨ms, hms⟩ := CV (e0 := A0) (k := 3) Try.underlying22 (by kernel_rfl) (fun _ => rfl) (by decide) (fun m cs y _ hy => OE m cs y hy) h1
 obtain ⟨l, hl⟩ := CV (e0 := CU) (k := 1) Try.underlying23 (by kernel_rfl) (fun _ => rfl) (by decide) (fun m cs y _ hy => E_ Try.underlying3 m cs y hy) h2
 exact ⟨⟨k, ms, l⟩, hk.append (hms.append hl)⟩
theorem Oa {r : Reach} {b0 : Nat} {v : Value} {d : DataW H} {p : List MemPlace} (hv : Value.okWide Try.prog W r b0 25 v) (h : DataW.Trod enc Try.prog W base sp hd 25 v d p) : ∃ a : Au, AM (sto W) noS noH v (aAu a) := by
 obtain ⟨a, ha⟩ := GL Try.underlying25 hv N2 h
 exact ⟨a, ha⟩
end
theorem own : ownKnob Try.prog.godebug = none := by kernel_rfl
theorem O6 : laidOutB Try.prog = true := by kernel_rfl
set_option maxRecDepth 100000 in
theorem NG (H : Type) (enc : TypeId × Value → H) (W : World) (base : Nat) (args : Array Value) (ds gs : List (DataW H)) (before : List MemPlace)
  (hval : ∀ (j : Nat) t v, Try.f3.params[j]? = some t → args[j]? = some v → Value.okWide Try.prog W .any base t v)
  (hW : DataW.Whole enc Try.prog Try.f3.params.toList Rows.autoSaysSpec.vars false W args.toList ds gs before) :
  Calls Try.prog 3 args W fun e W' => ∃ v, e = .returned v ∧ Rows.autoSaysSpec.post enc Try.prog Try.f3 false true false false W args v W' := by
 obtain ⟨p, q, hA0, hV, rfl, hfz, hnd⟩ := id hW
 obtain ⟨rfl, rfl⟩ := trodVars_none hV
 have hA : DataW.TrodAll enc Try.prog W 0 (fun _ => true) true Try.f3.params.toList args.toList ds p := hA0
 rw [Try.params3] at hA hval
 obtain ⟨v0, v1, d0, d1, p0, p1, hargs, rfl, rfl, h0, h1⟩ := trodAll_two hA
 obtain rfl : args = #[v0, v1] := by cases args; simp_all
 obtain ⟨a, r0⟩ := Oa (hval 0 25 v0 rfl rfl) h0
 obtain ⟨t, r1⟩ := Ow (hval 1 28 v1 rfl rfl) h1
 refine (Jd (Kb a t) KN (OH W) (vs := [v0, v1]) (.cons r0 (.cons r1 .nil))).mono fun e W' ⟨he, hb⟩ => ⟨_, he, ?_⟩
 exact Ms hW rfl rfl Try.underlying4 rfl rfl rfl O6 (by kernel_rfl) hb
set_option maxRecDepth 100000 in
theorem Ok (os : Os) (started : os.Started) (H : Type) (enc : TypeId × Value → H) :
  ReturnsInHanded {} Try.checked os 3 .any (Rows.autoSaysSpec.pre6 enc Try.prog Try.f3 Rows.autoSaysRow.domain false) (Rows.autoSaysSpec.post enc Try.prog Try.f3 false true false false) := by
 refine returnsInHanded_of_change (C := Try.checked) own started (by kernel_rfl) Try.func3
  (ChangeSpec.witness6 (enc := enc) (C := Try.checked) false ⟨#[], #[.agg #[.int .i64 0, .slice none 0 0, .slice none 0 0], .agg #[.string .empty, .slice none 0 0]], []⟩ 8 (by kernel_rfl) (by kernel_rfl) (by kernel_rfl) (by kernel_rfl)) ?_
 intro W base args ds gs before hval hW _ _
 exact NG H enc W base args ds gs before hval hW
theorem proved : Rows.AutoSaysSaid :=
 OpenClaim.holds_of_wide 3 Try.f3 rfl rfl rfl rfl rfl rfl rfl ⟨rfl, rfl, rfl, rfl, rfl⟩ rfl rfl rfl rfl rfl (by kernel_rfl) Try.func3 (by kernel_rfl)
  (of_decide_eq_true (by kernel_rfl)) (by unfold Func.isWrapper; first | (rw [if_pos (by decide +kernel)]; kernel_rfl) | (rw [if_neg (by decide +kernel)]; exact ⟨rfl, rfl⟩))
  (fun os started H enc _ => Ok os started H enc)

end Go.Proofs.Ytbknconogoegaaa.autoSays
