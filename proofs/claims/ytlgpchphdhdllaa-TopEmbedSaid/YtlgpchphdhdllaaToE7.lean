/-
  Part 7 of the texts. Conditions: none.
-/
import Derived.Test.YtlgpchphdhdllaaToE6
import Derived.Defers
import Derived.Recover
import Derived.ChangeKeysEq
namespace Go.Proofs.Ytlgpchphdhdllaa
open Go Go.RowKit
set_option linter.unusedVariables false
set_option maxHeartbeats 400000
def PX (P : Program) (f : FuncId) (xs : List AV) (S : AA) (v : Value) (S' : AA) : Prop :=
 Aq S → ∀ (σ : Sto) (w : World) (vs : List Value) (ι : Ao), Bl σ → Fit σ w → CV σ S ι w → AT (AH σ S ι) vs xs →
  Calls P f vs.toArray w fun e w' => ∃ σ' ι', e = .panicked [{ v := v, recovered := false }] ∧ Aq S' ∧ Upd S ι S' ι' ∧ CV σ' S' ι' w' ∧ Fit σ' w' ∧ (∀ p x, σ p = some x → σ' p = some x) ∧
   (∀ p : Addr, p.block < w.heap.size → BR S ι p.block → σ' p = σ p) ∧ (w'.os = w.os ∧ w'.tape = w.tape ∧ w'.output = w.output) ∧ w.heap.size ≤ w'.heap.size ∧
   (∀ g, g < w.heap.size → BR S ι g → w'.heap[g]? = w.heap[g]?) ∧ (∀ id b g, S' id = some b → (ι' id).g = some g → w.heap.size ≤ g ∨ ¬ BR S ι g)
section
variable {P : Program} {C : Ctx} {a : Act} {w : World} {σ : Sto} {ι : Ao} {s : AS} {Q : Exit → Act → World → Prop} {o : Oper}
theorem J6 {f : FuncId} {vs : List Value} {avs : List AV} {v : Value} {S' : AA} {next : Act → World → Prop} (R : AJ C σ ι s a w) (hrun : (execOp a.eval o).run P w = .ok (.enter f vs.toArray) w) (hvs : AT (AH σ s.S ι) vs avs)
  (h : PX P f (AV.rens up1 avs) (upS s.S) v S') (hQ : ∀ a' w', Ap C ⟨s.env, dnS S'⟩ a' w' → Q (.panic [{ v := v, recovered := false }]) a' w') : o.wp P a w next Q := by
 have hup : ∀ i, dn1 (up1 i) = i := Gx
 have hS : ∀ i b, s.S i = some b → upS s.S (up1 i) = some (b.ren up1) := fun i b hb => Ep hb
 obtain ⟨ι1, hι1⟩ : ∃ ι1 : Ao, ∀ i, ι1 i = ι (dn1 i) := ⟨fun i => ι (dn1 i), fun _ => rfl⟩
 have hι : ∀ i b, s.S i = some b → ι1 (up1 i) = ι i := fun i b _ => by rw [hι1, hup]
 have hown : CV σ (upS s.S) ι1 w := by
  refine ⟨fun id b hb => ?_, fun id id' b b' g h1 h2 g1 g2 => ?_⟩
  ·obtain ⟨hle, b', h1, rfl⟩ := B0 hb
   have := BX.ren (S2 := upS s.S) (ι2 := ι1) (ρ := up1) hS hι (R.blk _ _ h1)
   rw [hι1]
   exact this
  ·obtain ⟨l1, c1, k1, _⟩ := B0 h1
   obtain ⟨l2, c2, k2, _⟩ := B0 h2
   rw [hι1] at g1 g2
   have := R.inj _ _ _ _ g k1 k2 g1 g2
   rw [← Fq l1, ← Fq l2, this]
 have hargs : AT (AH σ (upS s.S) ι1) vs (AV.rens up1 avs) := by
  rw [AV.rens_eq]
  exact (hvs.mono fun _ _ x => AH.ren (S2 := upS s.S) (ι2 := ι1) (ρ := up1) hS hι x).map_right
 unfold Oper.wp
 rw [hrun, Oper.upon_enter]
 refine (h (FF _) σ w vs _ (C.glob.mono R.ext) R.fit hown hargs).mono fun e w' he => ?_
 obtain ⟨σ', ι', rfl, hclean, hupd, hown', hf', hkeep, hold, hos, hsz, hsame, hbase⟩ := he
 have hSd : ∀ i b, S' i = some b → dnS S' (dn1 i) = some (b.ren dn1) := fun i b hb => Hj (hclean i b hb).1 hb
 obtain ⟨ι2, hι2⟩ : ∃ ι2 : Ao, ∀ i, ι2 i = ι' (up1 i) := ⟨fun i => ι' (up1 i), fun _ => rfl⟩
 have hιd : ∀ i b, S' i = some b → ι2 (dn1 i) = ι' i := fun i b hb => by
  rw [hι2, Fq (hclean i b hb).1]
 have hu : Upd s.S ι (dnS S') ι2 := fun id b hb => by
  obtain ⟨b', h1, h2, h3⟩ := hupd _ _ (hS id b hb)
  have h4 := hSd _ _ h1
  rw [hup] at h4
  refine ⟨_, h4, by rw [BD] at h2 ⊢; exact h2, fun hl => ?_⟩
  rw [BD] at hl
  obtain ⟨q1, q2⟩ := h3 (by rw [BD]; exact hl)
  refine ⟨by rw [GD] at q1 ⊢; exact q1, ?_⟩
  rw [hι2, q2, hι1, hup]
 have hnot : ∀ g, g < C.N → ¬ C.G g → BR (upS s.S) ι1 g := fun g h1 h2 id b hb hg => by
  obtain ⟨_, b', k1, _⟩ := B0 hb
  rw [hι1] at hg
  rcases R.base _ _ g k1 hg with h | h
  ·omega
  ·exact h2 h
 have R' : AJ C σ' ι2 ⟨s.env, dnS S'⟩ a w' := by
  refine ⟨R.size, fun i hi => (R.env i hi).mono hkeep hu, R.nod.mono (fun D h => (hsame D (Array.getElem?_eq_some_iff.1 h).1 (DD hown.1 h)).trans h), hf', fun id b hb => ?_, fun id id' b b' g h1 h2 g1 g2 => ?_, fun id b g hb hg => ?_, fun p x hx => hkeep _ _ (R.ext p x hx), fun p h1 h2 => ?_, ⟨hos.1.trans R.os.1, hos.2.1.trans R.os.2.1, hos.2.2.trans R.os.2.2⟩, ⟨Nat.le_trans R.grown.1 hsz, Nat.le_trans R.grown.2 hsz⟩, fun g h1 h2 => ?_, R.upd.trans hu⟩
  ·obtain ⟨b', h1, rfl⟩ := CD hb
   have := BX.ren (S2 := dnS S') (ι2 := ι2) (ρ := dn1) hSd hιd (hown'.1 _ _ h1)
   rw [hι2]
   exact this
  ·obtain ⟨c1, k1, _⟩ := CD h1
   obtain ⟨c2, k2, _⟩ := CD h2
   rw [hι2] at g1 g2
   have := congrArg dn1 (hown'.2 _ _ _ _ g k1 k2 g1 g2)
   rw [hup, hup] at this
   exact this
  ·obtain ⟨b', h1, _⟩ := CD hb
   rw [hι2] at hg
   rcases hbase _ _ g h1 hg with h2 | h2
   ·exact .inl (by have := R.grown.1; omega)
   ·by_cases hN : g < C.N
    ·by_cases hG : C.G g
     ·exact .inr hG
     ·exact absurd (hnot g hN hG) h2
    ·exact .inl (by omega)
  ·exact (hold p (by have := R.grown.1; omega) (hnot _ h1 h2)).trans (R.old p h1 h2)
  ·exact (hsame g (by have := R.grown.1; omega) (hnot g h1 h2)).trans (R.same g h1 h2)
 exact hQ _ _ ⟨σ', _, R'⟩
def Bj (P : Program) (kd : Kd) (s : AS) (E : Value → AA → Prop) : Prop := match kd with
 | .callS f xs => ∃ v S', PX P f (AV.rens up1 (s.evs xs)) (upS s.S) v S' ∧ E v (dnS S')
 | .pan x => match s.ev x with
  | .one (.st (.lit (.iface t u))) => E (.iface t u) s.S
  | _ => False
 | _ => False
theorem Qu {kd : Kd} {d : Nat} {K : AV → AS → Prop} (h : kd.go P d s K) : kd.go P d s fun v s' => K v s' ∧ s'.env = s.env := by
 by_cases hdet : kd.det = true
 ·obtain ⟨v, S1, h1, h2, h3⟩ := Fo hdet h
  exact (h3 s.env (fun _ _ => rfl)).1 _ ⟨h1, rfl⟩
 ·cases kd
  case next x =>
   simp only [Kd.go] at h ⊢
   split at h
   ·exact ⟨fun hj => ⟨h.1 hj, trivial⟩, fun j x c h1 h2 h3 => ⟨h.2 j x c h1 h2 h3, rfl⟩⟩
   ·exact h.elim
  case memoGet ok z m k =>
   simp only [Kd.go] at h ⊢
   split at h
   ·exact ⟨h.1, ⟨h.2.1, trivial⟩, fun cs' ds' x h1 h2 h3 => ⟨h.2.2 cs' ds' x h1 h2 h3, trivial⟩⟩
   ·exact h.elim
  case callX f xs =>
   obtain ⟨T, Post, h1, h2, h3, h4, h5⟩ := h
   exact ⟨T, Post, h1, h2, h3, h4, fun r S' k1 k2 => ⟨h5 r S' k1 k2, rfl⟩⟩
  case callY f xs =>
   obtain ⟨T, Post, h1, h2, h3, h4, h5⟩ := h
   exact ⟨T, Post, h1, h2, h3, h4, fun r S' k1 k2 => ⟨h5 r S' k1 k2, rfl⟩⟩
  all_goals exact absurd rfl hdet
theorem PY {s' : AS} {dd : Option Nat} {v : AV} {t : Nat} (h : dd ≠ some t) : (s'.put dd v).env t = s'.env t := C8 (env := s'.env) (S1 := s'.S) h
theorem M5 {i : Ins} {K : AS → Prop} (h : i.go P s K) : i.go P s fun s' => K s' ∧ ∀ t, i.dst ≠ some t → s'.env t = s.env t := by
 have hgo : ∀ {d : Nat} {K' : AV → AS → Prop}, i.kd.goT P d s i.tag K' → i.kd.goT P d s i.tag fun v s' => K' v s' ∧ s'.env = s.env := fun hh => go_mono (Qu hh) fun v s' hv => ⟨hv.1.1, hv.1.2, hv.2⟩
 have hput : ∀ (v : AV) (s' : AS), s'.env = s.env → ∀ t, i.dst ≠ some t → (s'.put i.dst v).env t = s.env t := fun v s' he t ht => by rw [PY ht, he]
 unfold Ins.go at h ⊢
 revert h
 cases i.guard with
 | none =>
  intro h
  exact B5 (hgo h) fun v s' _ hv => ⟨hv.1, hput v s' hv.2⟩
 | some gw =>
  obtain ⟨g, want⟩ := gw
  intro h
  dsimp only at h ⊢
  split at h
  ·rename_i b e1
   refine ⟨fun hb => B5 (hgo (h.1 hb)) fun v s' _ hv => ⟨hv.1, hput v s' hv.2⟩, fun hb => ⟨h.2 hb, hput _ _ rfl⟩⟩
  ·exact ⟨h, hput _ _ rfl⟩
  ·exact h.elim
theorem QQ {i : Ins} {K K' : AS → Prop} (h : i.go P s K) (hm : ∀ s, K s → K' s) : i.go P s K' := by
 unfold Ins.go at h ⊢
 revert h
 cases i.guard with
 | none =>
  intro h
  exact B5 h fun v s' _ hv => hm _ hv
 | some gw =>
  obtain ⟨g, want⟩ := gw
  intro h
  dsimp only at h ⊢
  split at h
  ·exact ⟨fun hb => B5 (h.1 hb) fun v s' _ hv => hm _ hv, fun hb => hm _ (h.2 hb)⟩
  ·exact hm _ h
  ·exact h.elim
theorem M4 {K K' : AS → Prop} (hm : ∀ s, K s → K' s) : ∀ {l : List Ins} {s : AS}, Run P l s K → Run P l s K'
 | [], s, h => hm _ h
 | i :: l, s, h => by
  rw [EX] at h ⊢
  exact QQ h fun s' h' => M4 hm h'
theorem Lh {kd : Kd} {E E' : Value → AA → Prop} (h : Bj P kd s E) (hm : ∀ v S', E v S' → E' v S') : Bj P kd s E' := by
 cases kd <;> simp only [Bj] at h ⊢
 case callS f xs =>
  obtain ⟨v, S', h1, h2⟩ := h
  exact ⟨v, S', h1, hm _ _ h2⟩
 case pan x =>
  split at h
  ·exact hm _ _ h
  ·exact h.elim
theorem Ny {kd : Kd} {s1 : AS} {E : Value → AA → Prop} (h : Bj P kd s1 E) (hS : s1.S = s.S) (he : ∀ t ∈ kd.reads, s1.env t = s.env t) : Bj P kd s E := by
 cases kd <;> simp only [Bj] at h
 case callS f xs =>
  obtain ⟨v, S', h1, h2⟩ := h
  refine ⟨v, S', ?_, h2⟩
  have e : s.evs xs = s1.evs xs := CA (s := s1) (env' := s.env) (S' := s.S) fun t ht => (he t ht).symm
  rw [e, ← hS]
  exact h1
 case pan x =>
  have e : s.ev x = s1.ev x := AD (s := s1) (env' := s.env) (S' := s.S) fun t ht => (he t ht).symm
  simp only [Bj, e]
  rw [← hS]
  exact h
theorem LL {n : Nat} {mu : List Nat} {dst : Option Nat} {op : Op} {f : Nat} {xs : List Opd} (h : At P n mu dst op = some (.callS f xs)) : ∃ c, op = .call c ∧ Fl P n mu dst c = some (.callS f xs) := by
 unfold At at h
 split at h
 case h_21 c => exact ⟨c, rfl, h⟩
 all_goals (exfalso; revert h; (repeat' split) <;> simp)
theorem Ja {n : Nat} {mu : List Nat} {dst : Option Nat} {c : Call} {f : Nat} {xs : List Opd} (h : Fl P n mu dst c = some (.callS f xs)) : c.callee = .value (.func f) ∧ Bo P f = true ∧ BM n c.args.toList = some xs := by
 unfold Fl at h
 split at h
 case h_7 g hc =>
  split at h
  ·rename_i hpl
   rw [Option.map_eq_some_iff] at h
   obtain ⟨ys, hy, he⟩ := h
   have hfx : g = f ∧ ys = xs := by
    revert he
    (repeat' split) <;> simp <;> (intro h1 h2; exact ⟨h1, h2⟩)
   obtain ⟨rfl, rfl⟩ := hfx
   exact ⟨hc, hpl, hy⟩
  ·cases h
 all_goals (exfalso; revert h; (repeat' split) <;> simp)
theorem MZ {n : Nat} {mu : List Nat} {dst : Option Nat} {c : Call} {x : Opd} : ¬ Fl P n mu dst c = some (.pan x) := by
 intro h
 unfold Fl at h
 split at h
 all_goals (revert h; (repeat' split) <;> simp)
 all_goals (intro _ _; (repeat' split) <;> simp)
theorem N7 {n : Nat} {mu : List Nat} {dst : Option Nat} {op : Op} {x : Opd} : ¬ At P n mu dst op = some (.pan x) := by
 intro h
 unfold At at h
 split at h
 case h_21 c => exact MZ h
 all_goals (revert h; (repeat' split) <;> simp)
theorem HN {n : Nat} {op : Op} {k : Kd} (h : GR P n op = some k) : (∀ f xs, k ≠ .callS f xs) ∧ ∀ x, k ≠ .pan x := by
 refine ⟨fun f xs e => ?_, fun x e => ?_⟩ <;> subst e <;> unfold GR at h <;> revert h <;> (repeat' split) <;> simp
theorem I4 {mu : List Nat} {ops : List Oper} {k k' : Ins} (htr : Gf P C.n mu ops o = some k) (hk' : k'.dst = k.dst ∧ k'.guard = k.guard ∧ k'.kd = k.kd) (hg : k'.guard = none) {E : Value → AA → Prop} {next : Act → World → Prop} (R : AJ C σ ι s a w) (h : Bj P k'.kd s E)
  (hQ : ∀ v S' a' w', E v S' → Ap C ⟨s.env, S'⟩ a' w' → Q (.panic [{ v := v, recovered := false }]) a' w') : o.guard = none ∧ o.wpIn (fen C.ro) 0 P a w next Q := by
 unfold Gf at htr
 split at htr
 ·rename_i g kd e1 e2
  cases htr
  obtain ⟨hk1, hk2, hk3⟩ := hk'
  dsimp only at hk1 hk2 hk3
  rw [hg] at hk2
  subst hk2
  refine ⟨?_, ?_⟩
  ·cases hog : o.guard with
   | none => rfl
   | some jw =>
    rw [hog] at e1
    obtain ⟨j, want⟩ := jw
    simp only [HD] at e1
    split at e1
    ·split at e1
     ·split at e1 <;> cases e1
     ·cases e1
    ·cases e1
  ·rw [hk3] at h
   clear hk3
   unfold QP at e2
   cases kd <;> simp only [Bj] at h
   case callS f xs =>
    obtain ⟨v, S', h1, h2⟩ := h
    have h0 : At P C.n mu o.dst o.op = some (.callS f xs) := by
     split at e2
     ·rename_i k0 hk0
      have e2 := IJ (Option.some.inj e2)
      subst e2
      exact hk0
     ·split at e2
      ·rename_i k0 hk1
       cases e2
       exact absurd rfl ((HN hk1).1 f xs)
      ·split at e2
       ·rw [Option.map_eq_some_iff] at e2
        obtain ⟨_, _, e⟩ := e2
        cases e
       ·exfalso
        revert e2
        (repeat' split) <;> simp
       ·cases e2
    obtain ⟨c, ho, hc⟩ := LL h0
    obtain ⟨hcal, hpl, hy⟩ := Ja hc
    refine ED (fun c' e => by rw [e] at ho; cases ho) ?_
    refine J6 (vs := c.args.toList.map a.eval) R ?_ (R.evs hy) h1 fun a' w' hH => hQ _ _ _ _ h2 hH
    have := Cc (P := P) (w := w) (args := c.args.map a.eval) hpl
    have e : (c.args.toList.map a.eval).toArray = c.args.map a.eval := by rw [← Array.toList_map, Array.toArray_toList]
    rw [e]
    obtain ⟨cal, args, tys⟩ := c
    dsimp only at hcal
    subst hcal
    simp [execOp, ho, resolve, Deferred.ofValue, Act.eval, invoke, this]
   case pan x =>
    split at e2
    ·rename_i k0 hk0
     have e2 := LP (Option.some.inj e2)
     subst e2
     exact absurd hk0 N7
    ·split at e2
     ·rename_i k0 hk1
      cases e2
      exact absurd rfl ((HN hk1).2 x)
     ·split at e2
      ·rename_i y hop
       rw [Option.map_eq_some_iff] at e2
       obtain ⟨x', hx, e⟩ := e2
       cases e
       split at h
       ·rename_i t u e3
        have rx := R.ev hx
        rw [e3] at rx
        have hex := KN (CE (AO rx))
        refine ED (fun c e => by rw [e] at hop; cases hop) ?_
        unfold Oper.wp
        have : (execOp a.eval o).run P w = .halt (.panic (.iface t u)) w := by
         simp [execOp, hop, hex, Instr.panic, goPanic]
        rw [this, Oper.upon_panic]
        exact hQ _ _ _ _ h ⟨σ, ι, R⟩
       ·exact h.elim
      ·exfalso
       revert e2
       (repeat' split) <;> simp
      ·cases e2
 ·cases htr
def Hc (l : List Ins) (j : Nat) : Bool := match l[j]? with
 | some y => y.guard.isNone && (List.range l.length).all fun i => match l[i]? with
  | some x => if i < j then !x.indep y || (x.kd.keepS && x.kd.det) else if j < i then !y.indep x else true
  | none => true
 | none => false
theorem Gy {l : List Ins} {j : Nat} {y : Ins} (hj : l[j]? = some y) (h : Hc l j = true) : y.guard = none ∧ (∀ i x, i < j → l[i]? = some x → x.indep y = true → x.kd.keepS = true ∧ x.kd.det = true) ∧ ∀ i x, j < i → l[i]? = some x → y.indep x = false := by
 unfold Hc at h
 rw [hj] at h
 simp only [Bool.and_eq_true, Option.isNone_iff_eq_none, List.all_eq_true, List.mem_range] at h
 refine ⟨h.1, fun i x hi hx hd => ?_, fun i x hi hx => ?_⟩
 ·have := h.2 i (List.getElem?_eq_some_iff.1 hx).1
  rw [hx] at this
  simpa [hi, hd] using this
 ·have := h.2 i (List.getElem?_eq_some_iff.1 hx).1
  rw [hx] at this
  simpa [show ¬ i < j by omega, hi] using this
theorem Kt {x y : Ins} (h : x.indep y = true) : ∀ t ∈ y.reads, x.dst ≠ some t := by
 unfold Ins.indep at h
 simp only [Bool.and_eq_true] at h
 intro t ht e
 have h1 := h.1.1.2
 rw [e] at h1
 simp [ht] at h1
theorem LT {R : List Nat} : ∀ (l : List Ins) (s : AS) {K : AS → Prop}, (∀ x ∈ l, x.kd.keepS = true ∧ x.kd.det = true ∧ ∀ t ∈ R, x.dst ≠ some t) → Run P l s K → ∃ s1, K s1 ∧ s1.S = s.S ∧ ∀ t ∈ R, s1.env t = s.env t
 | [], s, _, _, h => ⟨s, h, rfl, fun _ _ => rfl⟩
 | x :: l, s, K, hx, h => by
  rw [EX] at h
  obtain ⟨k1, k2, k3⟩ := hx x List.mem_cons_self
  obtain ⟨v, S1, h1, h2, _⟩ := E6 k2 h
  have e := h2 k1
  subst e
  obtain ⟨s1, m1, m2, m3⟩ := LT l _ (fun x' hx' => hx x' (List.mem_cons_of_mem _ hx')) h1
  exact ⟨s1, m1, m2.trans JQ, fun t ht => (m3 t ht).trans (C8 (k3 t ht))⟩
theorem ER (ks : List Ins) : ∀ j : Nat, (List.range j).filterMap (fun i => ks[i]?) = ks.take j
 | 0 => rfl
 | j + 1 => by
  rw [List.range_succ, List.filterMap_append, ER ks j, List.take_add_one]
  cases h : ks[j]? <;> simp [h]
theorem H5 {mu : List Nat} {ops : Array Oper} {ks0 ks : List Ins} {id j : Nat} {y : Ins} {E : Value → AA → Prop} (hmix : P.follows .mixedOrders = true) (htr : GA P C.n mu ops.toList ops.toList = some ks0) (hre : IF ks0 ks) (hok : HE ops.toList ks = true) (hj : ks[j]? = some y) (hp : Hc ks j = true)
  (R : AJ C σ ι s a w) (h : Run P (ks.take j) s fun s1 => Bj P y.kd s1 E) (hQ : ∀ v S' env a' w', E v S' → (∀ t, (∀ k ∈ ks, k.dst ≠ some t) → env t = s.env t) → Ap C ⟨env, S'⟩ a' w' → Q (.panic [{ v := v, recovered := false }]) a' w') : (Code.region id ops true).wpIn (fen C.ro) 0 P Q a w := by
 obtain ⟨p1, p2, p3⟩ := Gy hj hp
 obtain ⟨hl0, hget0⟩ := Do htr
 have hl : ops.size = ks.length := by
  rw [← hre.1, ← hl0, Array.length_toList]
 have hjl : j < ops.size := by rw [hl]; exact (List.getElem?_eq_some_iff.1 hj).1
 have hget : ∀ (i : Nat) (o : Oper), ops.toList[i]? = some o → ∃ k', ks[i]? = some k' ∧ ∃ k, Gf P C.n mu ops.toList o = some k ∧ k'.dst = k.dst ∧ k'.guard = k.guard ∧ k'.kd = k.kd := fun i o ho => by
  obtain ⟨k, h1, h2⟩ := hget0 i o ho
  obtain ⟨k', q1, q2⟩ := hre.2 i k h1
  exact ⟨k', q1, k, h2, q2⟩
 refine wpIn_region_any hmix ?_
 have hchk : ∀ i, i < ops.size → (∀ o, ops[i]? = some o → ∀ e ∈ o.after, Region.binds .any e = true → e.on < i) ∧ ∀ j, j < i → ∀ x y, ks[j]? = some x → ks[i]? = some y → x.indep y = true ∨ D7 ops.toList ops.toList.length j i = true := fun i hi => by
  have h1 := List.all_eq_true.1 hok i (List.mem_range.2 (by simpa using hi))
  simp only [Bool.and_eq_true] at h1
  refine ⟨fun o ho e he hb => ?_, fun j hj x y hx hy => ?_⟩
  ·have h2 := h1.1
   rw [show ops.toList[i]? = some o by simpa using ho] at h2
   dsimp only at h2
   obtain ⟨k, hk, rfl⟩ := Array.getElem_of_mem he
   have h3 := (Array.all_eq_true.1 h2) k hk
   simpa [hb] using h3
  ·have h2 := List.all_eq_true.1 h1.2 j (List.mem_range.2 hj)
   rw [hx, hy] at h2
   simpa using h2
 have key : ∀ (f : Nat) (T : List Nat) (listed : Array Bool) (s1 : AS) (a : Act) (w : World), (∀ t, (∀ k ∈ ks, k.dst ≠ some t) → s1.env t = s.env t) → T.length ≤ f → listed.size = ops.size → T.Pairwise (· < ·) → (∀ i, i ∈ T ↔ i < ops.size ∧ listed.getD i true = false) →
   (∀ k o, ops[k]? = some o → listed.getD k true = true → k < ops.size → ∀ e ∈ o.after, Region.binds .any e = true → listed.getD e.on false = true) → j ∈ T → Ap C s1 a w → Run P ((T.filter fun i => decide (i < j)).filterMap fun i => ks[i]?) s1 (fun s1 => Bj P y.kd s1 E) → wpAnyIn (fen C.ro) 0 P .any ops Q f listed a w := by
  intro f
  induction f with
  | zero =>
   intro T listed s0 a w hE hf hsz hs hT hdc hjT hH hr
   have hT0 : T = [] := List.eq_nil_of_length_eq_zero (by omega)
   subst hT0
   cases hjT
  | succ f ih =>
   intro T listed s0 a w hE hf hsz hs hT hdc hjT hH hr
   have hgone : ∀ i k, i ∈ T → (∀ o, ops[k]? = some o → ∀ e ∈ o.after, Region.binds .any e = true → listed.getD e.on false = true) → D7 ops.toList ops.toList.length i k = true → False := fun i k hi hk hbe => by
    have h1 := FI (ops := ops) (listed := listed) hdc (i := k) _ i k hk hbe
    have h2 := ((hT i).1 hi).2
    have h3 := ((hT i).1 hi).1
    simp [show i < listed.size by omega] at h1 h2
    rw [h1] at h2
    cases h2
   refine ⟨fun hready => ?_, fun i hi => ?_⟩
   ·cases T with
    | nil => cases hjT
    | cons i T =>
     exfalso
     obtain ⟨hi1, hi2⟩ := (hT i).1 (by simp)
     have : i ∈ Region.ready .any ops listed := by
      refine mem_ready.2 ⟨hi2, ops[i], Array.getElem?_eq_getElem hi1, fun e he hb => ?_⟩
      have hlt := (hchk i hi1).1 _ (Array.getElem?_eq_getElem hi1) e he hb
      cases hq : listed.getD e.on true with
      | true =>
       simp [show e.on < listed.size by omega] at hq ⊢
       exact hq
      | false =>
       have hmem := (hT e.on).2 ⟨by omega, hq⟩
       rcases List.mem_cons.1 hmem with h | h
       ·omega
       ·have := (List.pairwise_cons.1 hs).1 _ h
        omega
     rw [hready] at this
     cases this
   ·obtain ⟨q1, o, q2, q3⟩ := mem_ready.1 hi
    have hi1 := (Array.getElem?_eq_some_iff.1 q2).1
    have hmem := (hT i).2 ⟨hi1, q1⟩
    have q3' : ∀ o2, ops[i]? = some o2 → ∀ e ∈ o2.after, Region.binds .any e = true → listed.getD e.on false = true := fun o2 ho2 e he hb => by
     rw [q2] at ho2
     cases ho2
     exact q3 e he hb
    obtain ⟨k', hy1, k0, hy2, hy3⟩ := hget i o (by simpa using q2)
    rcases Nat.lt_trichotomy i j with hij | hij | hij
    ·obtain ⟨pre, post, rfl⟩ := List.append_of_mem hmem
     rw [List.filter_append, List.filter_cons, if_pos (by simpa using hij), List.filterMap_append, List.filterMap_cons, hy1] at hr
     dsimp only at hr
     have hpre : ∀ j ∈ pre, j < i := fun j hj => (List.pairwise_append.1 hs).2.2 j hj i (by simp)
     have hfront := JE (P := P) (pre := (pre.filter fun i => decide (i < j)).filterMap fun i => ks[i]?) (y := k') (post := (post.filter fun i => decide (i < j)).filterMap fun i => ks[i]?) (fun x hx => by
      obtain ⟨m, hm, hxm⟩ := List.mem_filterMap.1 hx
      have hm' := (List.mem_filter.1 hm).1
      rcases (hchk i hi1).2 m (hpre m hm') x k' hxm hy1 with hind | hbe
      ·exact hind
      ·exact (hgone m i (by simp [hm']) q3' hbe).elim) hr
     obtain ⟨σ, ι, R⟩ := hH
     refine E8 q2 hy2 hy3 R (M5 hfront) fun s' a' w' hKE hH' => ?_
     obtain ⟨hK, hE'⟩ := hKE
     rw [← List.filterMap_append, ← List.filter_append] at hK
     have hsub : (pre ++ post).Pairwise (· < ·) := by
      refine hs.sublist ?_
      exact List.Sublist.append (List.Sublist.refl pre) (List.sublist_cons_self i post)
     have hni : i ∉ pre ++ post := fun hm => by
      rcases List.mem_append.1 hm with hm | hm
      ·have := hpre i hm; omega
      ·have := (List.pairwise_cons.1 (List.pairwise_append.1 hs).2.1).1 i hm; omega
     refine ih (pre ++ post) (listed.setIfInBounds i true) s' a' w' (fun t ht => (hE' t (ht _ (List.mem_of_getElem? hy1))).trans (hE t ht)) (by simp at hf ⊢; omega) (by simpa using hsz) hsub (fun m => ?_) (fun k ok hok2 hlk hkk e he hb => ?_) ?_ hH' hK
     ·constructor
      ·intro hm
       have hmi : i ≠ m := fun e => hni (e ▸ hm)
       have := (hT m).1 (by
        rcases List.mem_append.1 hm with h | h
        ·simp [h]
        ·simp [h])
       refine ⟨this.1, ?_⟩
       have h3 := this.2
       simp only [Array.getD_eq_getD_getElem?] at h3 ⊢
       rw [Array.getElem?_setIfInBounds_ne hmi]
       exact h3
      ·rintro ⟨h1, h2⟩
       have hmi : i ≠ m := fun e => by
        subst e
        simp [show i < listed.size by omega] at h2
       have h3 : listed.getD m true = false := by
        simp only [Array.getD_eq_getD_getElem?] at h2 ⊢
        rw [Array.getElem?_setIfInBounds_ne hmi] at h2
        exact h2
       have := (hT m).2 ⟨h1, h3⟩
       rcases List.mem_append.1 this with h | h
       ·exact List.mem_append_left _ h
       ·rcases List.mem_cons.1 h with h | h
        ·exact absurd h.symm hmi
        ·exact List.mem_append_right _ h
     ·have hstep : ∀ m, listed.getD m false = true → (listed.setIfInBounds i true).getD m false = true := fun m hm => by
       by_cases e : i = m
       ·subst e
        simp [show i < listed.size by omega]
       ·simp only [Array.getD_eq_getD_getElem?] at hm ⊢
        rw [Array.getElem?_setIfInBounds_ne e]
        exact hm
      by_cases hki : i = k
      ·subst hki
       exact hstep _ (q3' ok hok2 e he hb)
      ·refine hstep _ (hdc k ok hok2 ?_ hkk e he hb)
       simp only [Array.getD_eq_getD_getElem?] at hlk ⊢
       rw [Array.getElem?_setIfInBounds_ne hki] at hlk
       exact hlk
     ·rcases List.mem_append.1 hjT with h | h
      ·exact List.mem_append_left _ h
      ·rcases List.mem_cons.1 h with h | h
       ·omega
       ·exact List.mem_append_right _ h
    ·subst hij
     rw [hj] at hy1
     cases hy1
     obtain ⟨s1, k1, k2, k3⟩ := LT (R := y.kd.reads) _ _ (fun x hx => by
      obtain ⟨m, hm, hxm⟩ := List.mem_filterMap.1 hx
      obtain ⟨hmT, hmi⟩ := List.mem_filter.1 hm
      have hmi : m < i := by simpa using hmi
      rcases (hchk i hi1).2 m hmi x y hxm hj with hind | hbe
      ·obtain ⟨r1, r2⟩ := p2 m x hmi hxm hind
       exact ⟨r1, r2, fun t ht => Kt hind t (by simp [Ins.reads, ht])⟩
      ·exact (hgone m i hmT q3' hbe).elim) hr
     obtain ⟨σ, ι, R⟩ := hH
     obtain ⟨g1, g2⟩ := I4 (next := wpAnyIn (fen C.ro) 0 P .any ops Q f (listed.setIfInBounds i true)) hy2 hy3 p1 R (Ny k1 k2 k3) fun v S' a' w' h1 h2 => hQ v S' s0.env a' w' h1 hE h2
     unfold wpOpIn
     rw [q2]
     dsimp only
     rw [if_pos (by simp [Region.wanted, g1])]
     exact g2
    ·exfalso
     rcases (hchk i hi1).2 j hij y k' hj hy1 with hind | hbe
     ·rw [p3 i k' hij hy1] at hind
      cases hind
     ·exact hgone j i hjT q3' hbe
 have e0 : ((List.range ops.size).filter fun i => decide (i < j)).filterMap (fun i => ks[i]?) = ks.take j := by
  obtain ⟨m, hm⟩ : ∃ m, ops.size = j + m := ⟨ops.size - j, by omega⟩
  rw [hm, List.range_add, List.filter_append, List.filter_eq_self.2 (fun i hi => by simpa using hi), List.filter_eq_nil_iff.2 (fun i hi => by
   obtain ⟨k, _, rfl⟩ := List.mem_map.1 hi
   simp), List.append_nil]
  exact ER ks j
 refine key ops.size (List.range ops.size) (Array.replicate ops.size false) s a _ (fun _ _ => rfl) (by simp) (by simp) List.pairwise_lt_range (fun i => ?_) (fun k o hk hlk hkk e he hb => ?_) (List.mem_range.2 hjl) ⟨σ, ι, R.drew⟩ (by rw [e0]; exact h)
 ·simp only [List.mem_range, Array.getD_eq_getD_getElem?]
  constructor
  ·intro hi
   simp [hi]
  ·rintro ⟨hi, _⟩
   exact hi
 ·simp [hkk] at hlk
theorem G4 {mu : List Nat} {ops : Array Oper} {ks : List Ins} {id j : Nat} {y : Ins} {E : Value → AA → Prop} (htr : GA P C.n mu ops.toList ops.toList = some ks) (hj : ks[j]? = some y) (hp : Hc ks j = true)
  (R : AJ C σ ι s a w) (h : Run P (ks.take j) s fun s1 => Bj P y.kd s1 E) (hQ : ∀ v S' env a' w', E v S' → (∀ t, (∀ k ∈ ks, k.dst ≠ some t) → env t = s.env t) → Ap C ⟨env, S'⟩ a' w' → Q (.panic [{ v := v, recovered := false }]) a' w') : (Code.region id ops false).wpIn (fen C.ro) 0 P Q a w := by
 obtain ⟨p1, p2, p3⟩ := Gy hj hp
 obtain ⟨hl, hget⟩ := Do htr
 have hl' : ops.size = ks.length := by rw [← hl, Array.length_toList]
 have hjl : j < ks.length := (List.getElem?_eq_some_iff.1 hj).1
 refine wpIn_region ?_
 have key : ∀ (m k : Nat) (s1 : AS) (a : Act) (w : World), (∀ t, (∀ k ∈ ks, k.dst ≠ some t) → s1.env t = s.env t) → k + m = ops.size → k ≤ j → Ap C s1 a w → Run P ((ks.take j).drop k) s1 (fun s1 => Bj P y.kd s1 E) → wpOpsIn (fen C.ro) 0 P ops Q (List.range' k m) a w := by
  intro m
  induction m with
  | zero => intro k s1 a w hE hk hkj; omega
  | succ m ih =>
   intro k s1 a w hE hk hkj hH hr
   have hlt : k < ops.toList.length := by simp; omega
   obtain ⟨oo, hoo⟩ : ∃ oo, ops.toList[k]? = some oo := ⟨_, List.getElem?_eq_getElem hlt⟩
   obtain ⟨kk, h1, h2⟩ := hget k oo hoo
   have hop : ops[k]? = some oo := by rw [← Array.getElem?_toList]; exact hoo
   obtain ⟨σ, ι, R⟩ := hH
   rw [List.range'_succ, wpOpsIn_cons]
   by_cases hkj' : k = j
   ·subst hkj'
    rw [hj] at h1
    cases h1
    rw [List.drop_of_length_le (by simp; omega)] at hr
    obtain ⟨g1, g2⟩ := I4 (next := wpOpsIn (fen C.ro) 0 P ops Q (List.range' (k + 1) m)) h2 ⟨rfl, rfl, rfl⟩ p1 R hr fun v S' a' w' h1 h2 => hQ v S' s1.env a' w' h1 hE h2
    unfold wpOpIn
    rw [hop]
    dsimp only
    rw [if_pos (by simp [Region.wanted, g1])]
    exact g2
   ·have hd : (ks.take j).drop k = kk :: (ks.take j).drop (k + 1) := by
     have hk' : k < (ks.take j).length := by simp; omega
     rw [List.drop_eq_getElem_cons hk']
     congr 1
     rw [List.getElem_take]
     exact (List.getElem?_eq_some_iff.1 h1).2
    rw [hd, EX] at hr
    exact E8 (i := k) hop h2 ⟨rfl, rfl, rfl⟩ R (M5 hr) fun s' a' w' hK hH' => ih (k + 1) s' a' w' (fun t ht => (hK.2 t (ht _ (List.mem_of_getElem? h1))).trans (hE t ht)) (by omega) (by omega) hH' hK.1
 rw [List.range_eq_range']
 exact key ops.size 0 s a w (fun _ _ => rfl) (by omega) (by omega) ⟨σ, ι, R⟩ (by simpa using h)
end
section
variable {P : Program} {C : Ctx} {mu : List Nat} {Q : AX → AS → Prop} {s : AS}
theorem IWP.opsPanR {l : List Ins} (j : Nat) (y : Ins) (hj : l[j]? = some y) (hp : Hc l j = true) (h : Run P (l.take j) s fun s1 => Bj P y.kd s1 fun v S' => ∀ env, (∀ t, (l.all fun k => k.dst != some t) = true → env t = s.env t) → Q (.pan v) ⟨env, S'⟩) : IWP P C mu (.ops l) Q s := fun c hc a w hH => by
 have hQ : ∀ (v : Value) (S' : AA) (env : Nat → AV) (a' : Act) (w' : World), (∀ env, (∀ t, (l.all fun k => k.dst != some t) = true → env t = s.env t) → Q (.pan v) ⟨env, S'⟩) → (∀ t, (∀ k ∈ l, k.dst ≠ some t) → env t = s.env t) → Ap C ⟨env, S'⟩ a' w' → RZ C Q (.panic [{ v := v, recovered := false }]) a' w' := fun v S' env a' w' hE hk hH => ⟨_, v, ⟨hE env fun t ht => hk t fun k hk' => by simpa using List.all_eq_true.1 ht k hk', rfl⟩, hH⟩
 cases c <;> simp only [Az] at hc
 case region id ops draw =>
  split at hc
  ·rename_i ks e1
   obtain ⟨σ, ι, R⟩ := hH
   cases draw with
   | true =>
    simp only [if_true] at hc
    split at hc
    ·rename_i h1
     cases hc
     simp only [Bool.and_eq_true] at h1
     exact H5 h1.1 e1 (IF.refl _) h1.2 hj hp R h hQ
    ·split at hc
     ·rename_i h1
      cases hc
      simp only [Bool.and_eq_true] at h1
      exact H5 h1.1 e1 (HQ _ 0 _) h1.2 hj hp R h hQ
     ·cases hc
   | false =>
    simp only [Bool.false_eq_true, if_false, Option.some.injEq, IR.ops.injEq] at hc
    subst hc
    exact G4 e1 hj hp R h hQ
  ·cases hc
 all_goals (exfalso; revert hc; (repeat' split) <;> simp)
theorem IWP.opsPanE {l : List Ins} (j : Nat) (y : Ins) (hj : l[j]? = some y) (hp : Hc l j = true) (h : EQ P (l.take j) s fun s1 => Bj P y.kd s1 fun v S' => ∀ env, (∀ t, (l.all fun k => k.dst != some t) = true → env t = s.env t) → Q (.pan v) ⟨env, S'⟩) : IWP P C mu (.ops l) Q s := IWP.opsPanR j y hj hp (BZ h)
theorem IWP.opsPan {l : List Ins} (j : Nat) (y : Ins) (hj : l[j]? = some y) (hp : Hc l j = true) (h : EQ P (l.take j) s fun s1 => Bj P y.kd s1 fun v S' => ∀ env, Q (.pan v) ⟨env, S'⟩) : IWP P C mu (.ops l) Q s :=
 IWP.opsPanR j y hj hp (M4 (fun s1 h1 => Lh h1 fun v S' h2 env _ => h2 env) (BZ h))
def Qp : List Ins → Bool
 | [] => true
 | i :: l => (match i.kd with | .pan _ => false | _ => true) && Qp l
theorem IWP.ops3 {l : List Ins} (hn : Qp l = true) (h : ∀ K : AS → Prop, (∀ s, Q .normal s → K s) → EQ P l s K) : IWP P C mu (.ops l) Q s := IWP.ops2 h
theorem OV {y : IR} {v : Value} (h : Q (.pan v) s) : Jo P C mu y Q (.pan v) s := h
theorem Ku {id : Nat} {v : Value} (h : Q (.pan v) s) : AX.inBlock id Q (.pan v) s := h
theorem O4 {K : AS → Prop} {v : Value} (h : Q (.pan v) s) : AX.then K Q (.pan v) s := h
def Qd (C : Ctx) (v : Value) (S' : AA) (e : AX) (s : AS) : Prop := e = .pan v ∧ ∃ s2, Ak C s s2 ∧ s2.S = S' ∧ Aq S'
theorem OO {f : FuncId} {fn : Func} {c : Code} {x : IR} {xs : List AV} {S : AA} {v : Value} {S' : AA} (hf : P.funcs[f]? = some fn) (hb : fn.body = some c) (hx : Az P fn.ntmps mu c = some x) (hn : xs.length ≤ fn.ntmps)
  (h : Aq S → ∀ C : Ctx, C.n = fn.ntmps → C.Top → IWP P C mu x (Qd C v S') (AS.startS xs S)) : PX P f xs S v S' := by
 intro hclean σ w vs ι hglob hfit hown hvs
 have hl := hvs.len
 let C : Ctx := ⟨fn.ntmps, w.heap.size, fun g => ¬ BR S ι g, σ, w, S, ι, hclean, hglob, [], none, false⟩
 refine callsIn_wide.1 (callsIn_of_wp_marks (n := 0) hf hb trivial ?_)
 have R : AJ C σ ι (AS.startS xs S) { tmps := vs.toArray ++ Array.replicate (fn.ntmps - vs.toArray.size) undef, defers := [] } w := by
  refine ⟨by simp [C]; omega, fun i hi => ?_, Dv, hfit, hown.1, hown.2, fun id b g h hg => .inr (fun hno => hno id b h hg), fun _ _ h => h, fun _ _ _ => rfl, ⟨rfl, rfl, rfl⟩, ⟨Nat.le_refl _, Nat.le_refl _⟩, fun _ _ _ => rfl, Upd.refl _ _⟩
  show AH σ S ι _ ((xs[i]?).getD (.tup []))
  rw [Array.getD_eq_getD_getElem?]
  by_cases hlt : i < vs.length
  ·rw [Array.getElem?_append_left (by simpa using hlt)]
   obtain ⟨b, hb1, hb2⟩ := hvs.get' (List.getElem?_eq_getElem hlt)
   rw [hb1]
   simpa [hlt] using hb2
  ·rw [Array.getElem?_append_right (by simp; omega), List.getElem?_eq_none (by omega)]
   have hi' : i < fn.ntmps := hi
   rw [Array.getElem?_replicate, if_pos (by simp; omega)]
   exact .tup (fun _ => undef) rfl (by simp) (by simp)
 refine wpIn_mono (h hclean C rfl ⟨rfl, rfl⟩ c hx _ w ⟨σ, ι, R⟩) fun e a' w' he => ?_
 cases e with
 | panic ch =>
  obtain ⟨s, v', ⟨⟨h1, s2, hg, hS, hc⟩, rfl⟩, hH⟩ := he
  cases h1
  obtain ⟨σ', ι', R1⟩ := hg _ _ hH
  subst hS
  refine R1.leaves (fun h => by cases h) fun a2 w2 R' hd ht => ?_
  exact ⟨σ', ι', rfl, hc, R'.upd, ⟨R'.blk, R'.inj⟩, R'.fit, R'.ext, fun p h1 h2 => R'.old p h1 (fun h => h h2), R'.os, R'.grown.2, fun g h1 h2 => R'.same g h1 (fun h => h h2), fun id b g h1 h2 => R'.base id b g h1 h2⟩
 | normal => obtain ⟨s, h1, h2⟩ := he; cases h1.1
 | ret => obtain ⟨s, h1, h2⟩ := he; cases h1.1
 | exit id => obtain ⟨s, h1, h2⟩ := he; cases h1.1
 | _ => exact he.elim
end
abbrev Wx := @IWP.ops3
abbrev Wy := @OV
abbrev Wz := @Ku
abbrev Wv := @O4
theorem OkF.acP {P : Program} {f n : Nat} {mu : List Nat} {x : IR} {rs : List RV} (o : OkF P f n mu x rs) {xs : List AV} {S S' : AA} {v : Value} (h : Aq S → ∀ C : Ctx, C.n = n → IWP P C mu x (Qd C v S') (AS.startS xs S)) (hn : xs.length ≤ n := by exact Nat.le_of_ble_eq_true rfl) : PX P f xs S v S' := by
 obtain ⟨fn, c, hf, hb, rfl, hx, hr⟩ := o.ok
 exact OO hf hb hx hn fun h0 C h1 _ => h h0 C h1

set_option maxRecDepth 100000
def BH : IR :=
 (.seq (.ops [.i 2 (.alloc 25 [.st (.str (ByteArray.mk (#[]))), .full []])]) (.seq (.ops [.i 3 (.mov (.n 0))]) (.seq (.block 0 (.loop (.seq (.seq (.ops [.m 6 3, .m 7 0, .i 8 (.nilCheck (.t 7)), .f 9 0 8, .l 10 9, .i 11 (.len true (.t 10)), .i 12 (.bin .lss (.t 6) (.t 11)), .m 13 12, .mk (some 14) (some (13, true)) (.mov (.t 0)) .no, .mk (some 15) (some (13, true)) (.nilCheck (.t 14)) .no, .mk (some 16) (some (13, true)) (.fieldAddr 0 (.t 15)) .no, .mk (some 17) (some (13, true)) (.load false 1 (.t 16)) .no, .mk (some 18) (some (13, true)) (.mov (.t 3)) .no, .mk (some 19) (some (13, true)) (.indexStr (.t 17) (.t 18)) .no, .mk (some 20) (some (13, true)) (.call 34 [.t 19]) .no, .i 21 (.pick (.t 13) (.t 20) (.c (.one (.st (.bool false)))))]) (.cond (.t 21) .skip (.exit 0))) (.block 1 (.ops [.m 22 3, .i 23 (.bin .add (.t 22) (.n 1)), .m 3 23]))))) (.seq (.seq (.ops [.m 24 3, .i 25 (.bin .eql (.t 24) (.n 0))]) (.cond (.t 25) (.seq (.seq (.ops [.m 26 0, .i 27 (.nilCheck (.t 26)), .f 28 0 27, .l 29 28, .i 30 (.bin .eql (.t 29) (.c (.one (.st (.str (ByteArray.mk (#[])))))))]) (.cond (.t 30) (.ops [.i 31 (.iface 62 (.n 13)), .mk none none (.pan (.t 31)) .no]) .skip)) (.ops [.i 32 (.iface 62 (.n 12)), .mk none none (.pan (.t 32)) .no])) .skip)) (.seq (.ops [.m 33 0, .i 34 (.nilCheck (.t 33)), .f 35 0 34, .l 36 35, .m 37 3, .i 38 (.sliceS (.t 36) none (some (.t 37))), .i 39 (.build [.st (.str (ByteArray.mk (#[]))), .full []] [(0, 1, .t 38)]), .i 4 (.alloc 25 [.st (.str (ByteArray.mk (#[]))), .full []]), .s 2 4 39]) (.seq (.seq (.ops [.f 40 0 4, .l 41 40, .i 42 (.call 32 [.t 41]), .i 43 (.un .not (.t 42))]) (.cond (.t 43) (.ops [.i 44 (.iface 62 (.n 1)), .mk none none (.pan (.t 44)) .no]) .skip)) (.seq (.seq (.ops [.m 45 0, .i 46 (.nilCheck (.t 45)), .f 47 1 46, .l 48 47, .i 49 (.bin .sub (.t 48) (.n 1)), .i 50 (.nilCheck (.t 45)), .f 51 1 50, .s 1 51 49]) (.seq (.ops [.m 52 0, .i 53 (.nilCheck (.t 52)), .f 54 1 53, .l 55 54, .i 56 (.bin .lss (.t 55) (.n 0))]) (.cond (.t 56) (.ops [.i 57 (.iface 62 (.n 3)), .mk none none (.pan (.t 57)) .no]) .skip))) (.seq (.ops [.m 58 0, .m 59 0, .i 60 (.nilCheck (.t 59)), .f 61 0 60, .l 62 61, .m 63 3, .i 64 (.sliceS (.t 62) (some (.t 63)) none), .i 65 (.nilCheck (.t 58)), .f 66 0 65, .s 1 66 64]) (.seq (.seq (.ops [.m 67 0, .i 68 (.nilCheck (.t 67)), .f 69 0 68, .l 70 69, .i 71 (.call 35 [.t 70, .c (.one (.st (.str (ByteArray.mk (#[40])))))]), .i 72 (.un .not (.t 71))]) (.cond (.t 72) (.seq (.ops [.L 73 2 4, .s 2 2 73]) .ret) .skip)) (.seq (.seq (.ops [.f 74 0 4, .l 75 74, .i 76 (.call 33 [.t 75])]) (.cond (.t 76) (.ops [.i 77 (.iface 62 (.n 2)), .mk none none (.pan (.t 77)) .no]) .skip)) (.seq (.seq (.ops [.i 5 (.mov (.c (.one (.st (.bool true)))))]) (.block 2 (.loop (.seq (.seq (.ops [.m 78 5]) (.cond (.t 78) .skip (.exit 2))) (.block 3 (.seq (.ops [.m 79 0, .m 80 0, .i 81 (.nilCheck (.t 80)), .f 82 0 81, .l 83 82, .i 84 (.sliceS (.t 83) (some (.n 1)) none), .i 85 (.nilCheck (.t 79)), .f 86 0 85, .s 1 86 84]) (.seq (.ops [.mk (some 87) none (.fieldAddr 1 (.t 4)) (.onb 4), .mk (some 88) none (.load false 1 (.t 87)) (.onb 4), .m 89 0, .mk (some 90) none (.callS 26 [.t 89]) (.keeps [4, 4]), .i 91 (.buildSlice false 25 2 [.t 90]), .i 92 (.append false 25 2 40 (.t 88) (.t 91)), .f 93 1 4, .s 1 93 92]) (.block 4 (.seq (.ops [.m 95 0, .i 96 (.nilCheck (.t 95)), .f 97 0 96, .l 98 97, .i 99 (.bin .eql (.t 98) (.c (.one (.st (.str (ByteArray.mk (#[]))))))), .m 94 99]) (.cond (.t 94) (.ops [.i 100 (.iface 62 (.n 13)), .mk none none (.pan (.t 100)) .no]) (.seq (.ops [.m 102 0, .i 103 (.nilCheck (.t 102)), .f 104 0 103, .l 105 104, .i 106 (.indexStr (.t 105) (.n 0)), .i 107 (.bin .eql (.t 106) (.c (.one (.st (.int .u8 41))))), .m 101 107]) (.cond (.t 101) (.ops [.i 5 (.mov (.c (.one (.st (.bool false)))))]) (.seq (.ops [.m 109 0, .i 110 (.nilCheck (.t 109)), .f 111 0 110, .l 112 111, .i 113 (.indexStr (.t 112) (.n 0)), .i 114 (.bin .neq (.t 113) (.c (.one (.st (.int .u8 44))))), .m 108 114]) (.cond (.t 108) (.ops [.i 115 (.iface 62 (.n 12)), .mk none none (.pan (.t 115)) .no]) .skip)))))))))))))) (.seq (.ops [.m 116 0, .m 117 0, .i 118 (.nilCheck (.t 117)), .f 119 0 118, .l 120 119, .i 121 (.sliceS (.t 120) (some (.n 1)) none), .i 122 (.nilCheck (.t 116)), .f 123 0 122, .s 1 123 121]) (.seq (.ops [.L 124 2 4, .s 2 2 124]) .ret)))))))))))))
theorem Bi : OkF Try.prog 26 125 [90] BH [.cell 2 true 2] := .of Try.func26 rfl rfl (by kernel_rfl) rfl
def Cs : IR :=
 (.seq (.ops [.i 4 (.mov (.c (.one (.st (.bool false)))))]) (.seq (.ops [.m 5 0, .m 6 1, .i 7 (.call 41 [.t 5, .t 6]), .m 4 7]) .ret))
theorem El : OkF Try.prog 35 8 [] Cs [.t 4] := .of Try.func35 rfl rfl (by kernel_rfl) rfl
def A6 : IR :=
 (.seq (.ops [.i 4 (.mov (.c (.one (.st (.bool false)))))]) (.seq (.ops [.m 5 0, .i 6 (.len true (.t 5)), .m 7 1, .i 8 (.len true (.t 7)), .i 9 (.bin .geq (.t 6) (.t 8)), .m 10 9, .mk (some 11) (some (10, true)) (.mov (.t 0)) .no, .mk (some 12) (some (10, true)) (.mov (.t 1)) .no, .mk (some 13) (some (10, true)) (.len true (.t 12)) .no, .mk (some 14) (some (10, true)) (.sliceS (.t 11) none (some (.t 13))) .no, .mk (some 15) (some (10, true)) (.mov (.t 1)) .no, .mk (some 16) (some (10, true)) (.bin .eql (.t 14) (.t 15)) .no, .i 17 (.pick (.t 10) (.t 16) (.c (.one (.st (.bool false))))), .m 4 17]) .ret))
theorem BQ : OkF Try.prog 41 18 [] A6 [.t 4] := .of Try.func41 rfl rfl (by kernel_rfl) rfl
def G5 : IR :=
 (.seq (.ops [.i 5 .never, .i 6 .never, .m 4 6, .i 7 (.extract 0 (.t 4)), .i 8 (.extract 1 (.t 4)), .m 2 7, .m 3 8]) (.seq (.ops [.m 9 3]) (.cond (.t 9) (.ops [.i 10 (.build [.st (.str (ByteArray.mk (#[]))), .full []] []), .m 11 2, .s 2 0 10, .s 1 1 11]) .skip)))
theorem EN : Az Try.prog 12 [] (Try.f25.body.getD .skip) = some G5 := by kernel_rfl
def IN : IR :=
 (.seq (.ops [.i 2 (.alloc 25 [.st (.str (ByteArray.mk (#[]))), .full []]), .i 3 (.alloc 30 [.st (.int .i64 0)])]) (.seq (.seq (.ops [.m 5 0, .i 6 (.len true (.t 5)), .i 7 (.bin .gtr (.t 6) (.n 4000))]) (.cond (.t 7) (.seq (.ops [.i 8 (.build [.st (.str (ByteArray.mk (#[]))), .full []] []), .s 2 2 8, .mk none none (.store 1 (.t 3) (.n 3)) .no]) .ret) .skip)) (.seq (.ops [.i 9 (.makeFunc 25 [.t 2, .t 3]), .mk none none .never .no]) (.seq (.ops [.m 10 0, .i 11 (.build [.st (.str (ByteArray.mk (#[]))), .st (.int .i64 0)] [(0, 1, .t 10), (1, 1, .n 200)]), .i 12 (.box 66 (.t 11)), .m 4 12]) (.seq (.ops [.m 13 4, .i 14 (.callS 26 [.t 13]), .s 2 2 14]) (.seq (.seq (.ops [.m 15 4, .i 16 (.nilCheck (.t 15)), .f 17 0 16, .l 18 17, .i 19 (.bin .neq (.t 18) (.c (.one (.st (.str (ByteArray.mk (#[])))))))]) (.cond (.t 19) (.ops [.i 20 (.iface 62 (.n 12)), .mk none none (.pan (.t 20)) .no]) .skip)) (.seq (.ops [.L 21 2 2, .s 2 2 21, .mk none none (.store 1 (.t 3) (.n 0)) .no]) .ret)))))))
theorem IV : Az Try.prog 22 [14] (Try.f16.body.getD .skip) = some IN := by kernel_rfl

def A8 (s : ByteArray) (i : Nat) : ByteArray := s.extract i s.size
theorem Cj (s : ByteArray) (i : Nat) : (A8 s i).size = s.size - i := by
 unfold A8
 rw [ByteArray.size_extract]
 omega
theorem N9 (s : ByteArray) : A8 s 0 = s := by
 unfold A8
 rw [ByteArray.extract_zero_size]
theorem D5 {s : ByteArray} {i k : Nat} (h : i + k < s.size) : C3 (A8 s i) k = Ah s (i + k) := by
 unfold C3 Ah A8
 rw [ByteArray.data_extract, Array.toList_extract]
 simp only [List.getD_eq_getElem?_getD]
 congr 3
 rw [List.extract_eq_take_drop, List.getElem?_take_of_lt (by omega), List.getElem?_drop]
theorem NO {s : ByteArray} {i n : Nat} (h : i + n ≤ s.size) : (A8 s i).extract 0 n = s.extract i (i + n) := by
 unfold A8
 rw [ByteArray.extract_extract]
 congr 1
 omega
theorem tail_drop {s : ByteArray} {i n : Nat} (h : i + n ≤ s.size) : (A8 s i).extract n (A8 s i).size = A8 s (i + n) := by
 rw [Cj]
 unfold A8
 rw [ByteArray.extract_extract]
 congr 1
 omega
def L1 (s : ByteArray) : Nat → Nat → Nat
 | 0, i => i
 | k + 1, i => if Bp (Ah s i) = true then L1 s k (i + 1) else i
def AY (s : ByteArray) (i : Nat) : Nat := L1 s (s.size - i) i
theorem O7 {s : ByteArray} {i : Nat} (h : i < s.size) (hl : Bp (Ah s i) = true) : AY s i = AY s (i + 1) := by
 unfold AY
 obtain ⟨k, hk⟩ : ∃ k, s.size - i = k + 1 := ⟨s.size - i - 1, by omega⟩
 rw [hk, show s.size - (i + 1) = k by omega, L1, if_pos hl]
theorem Lt {s : ByteArray} {i : Nat} (h : i < s.size) (hl : ¬ Bp (Ah s i) = true) : AY s i = i := by
 unfold AY
 obtain ⟨k, hk⟩ : ∃ k, s.size - i = k + 1 := ⟨s.size - i - 1, by omega⟩
 rw [hk, L1, if_neg hl]
theorem NE {s : ByteArray} {i : Nat} (h : s.size ≤ i) : AY s i = i := by
 unfold AY
 rw [show s.size - i = 0 by omega]
 rfl
theorem Mh (s : ByteArray) : ∀ k i : Nat, i ≤ L1 s k i ∧ L1 s k i ≤ i + k
 | 0, i => ⟨Nat.le_refl _, Nat.le_refl _⟩
 | k + 1, i => by
  rw [L1]
  split
  ·have := Mh s k (i + 1)
   omega
  ·omega
theorem KO {s : ByteArray} {i : Nat} (h : i ≤ s.size) : i ≤ AY s i ∧ AY s i ≤ s.size := by
 have := Mh s (s.size - i) i
 unfold AY
 omega
structure Rd where
 t : Tm
 i : Nat
 k : Nat
 e : Int
mutual
def rd (s : ByteArray) : Nat → Nat → Nat → Rd
 | 0, i, k => ⟨.mk ⟨#[]⟩ [], i, k, 99⟩
 | f + 1, i, k =>
  if AY s i = i then ⟨.mk ⟨#[]⟩ [], i, k, if i = s.size then 13 else 12⟩
  else if BN (s.extract i (AY s i)) = true then
   if 200 < k + 1 then ⟨.mk (s.extract i (AY s i)) [], AY s i, k + 1, 3⟩
   else if AY s i = s.size ∨ Ah s (AY s i) ≠ 40 then ⟨.mk (s.extract i (AY s i)) [], AY s i, k + 1, 0⟩
   else if AU (s.extract i (AY s i)) = true then ⟨.mk (s.extract i (AY s i)) [], AY s i, k + 1, 2⟩
   else rdA s f (s.extract i (AY s i)) [] (AY s i) (k + 1)
  else ⟨.mk (s.extract i (AY s i)) [], AY s i, k, 1⟩
def rdA (s : ByteArray) : Nat → ByteArray → List Tm → Nat → Nat → Rd
 | 0, n, acc, i, k => ⟨.mk ⟨#[]⟩ [], i, k, 99⟩
 | f + 1, n, acc, i, k =>
  if (rd s f (i + 1) k).e = 0 then
   if (rd s f (i + 1) k).i = s.size then ⟨.mk n (acc ++ [(rd s f (i + 1) k).t]), (rd s f (i + 1) k).i, (rd s f (i + 1) k).k, 13⟩
   else if Ah s (rd s f (i + 1) k).i = 41 then ⟨.mk n (acc ++ [(rd s f (i + 1) k).t]), (rd s f (i + 1) k).i + 1, (rd s f (i + 1) k).k, 0⟩
   else if Ah s (rd s f (i + 1) k).i = 44 then rdA s f n (acc ++ [(rd s f (i + 1) k).t]) (rd s f (i + 1) k).i (rd s f (i + 1) k).k
   else ⟨.mk n (acc ++ [(rd s f (i + 1) k).t]), (rd s f (i + 1) k).i, (rd s f (i + 1) k).k, 12⟩
  else ⟨.mk n acc, (rd s f (i + 1) k).i, (rd s f (i + 1) k).k, (rd s f (i + 1) k).e⟩
end
structure Rc (s : ByteArray) (i k : Nat) (r : Rd) : Prop where
 le : i ≤ r.i
 in_ : r.i ≤ s.size
 knots : k ≤ r.k
 most : r.k ≤ 201
 ok : r.e = 0 → i < r.i ∧ r.k ≤ 200 ∧ k < r.k ∧ r.t.size ≤ r.k - k
 err : 0 ≤ r.e ∧ r.e ≤ 13
structure RR (s : ByteArray) (acc : List Tm) (i k : Nat) (r : Rd) : Prop where
 le : i ≤ r.i
 in_ : r.i ≤ s.size
 knots : k ≤ r.k
 most : r.k ≤ 201
 ok : r.e = 0 → i < r.i ∧ r.k ≤ 200 ∧ k < r.k ∧ r.t.size ≤ (r.k - k) + (1 + Tm.sizes acc)
 err : 0 ≤ r.e ∧ r.e ≤ 13
theorem H4 (xs : List Tm) (a : Tm) : Tm.sizes (xs ++ [a]) = Tm.sizes xs + a.size := by
 rw [Tm.sizes_append]
 simp [Tm.sizes]
mutual
theorem O1 (s : ByteArray) : ∀ f i k : Nat, i ≤ s.size → k ≤ 200 → 2 * (s.size - i) < f → Rc s i k (rd s f i k)
 | 0, i, k, _, _, h => absurd h (Nat.not_lt_zero _)
 | f + 1, i, k, hi, hk, hf => by
  obtain ⟨l1, l2⟩ := KO hi
  rw [rd]
  by_cases h0 : AY s i = i
  ·rw [if_pos h0]
   by_cases h1 : i = s.size
   ·rw [if_pos h1]
    exact ⟨Nat.le_refl _, hi, Nat.le_refl _, by show k ≤ 201; omega, fun h => absurd h (by show ¬ (13 : Int) = 0; decide), by show (0 : Int) ≤ 13 ∧ (13 : Int) ≤ 13; decide⟩
   ·rw [if_neg h1]
    exact ⟨Nat.le_refl _, hi, Nat.le_refl _, by show k ≤ 201; omega, fun h => absurd h (by show ¬ (12 : Int) = 0; decide), by show (0 : Int) ≤ 12 ∧ (12 : Int) ≤ 13; decide⟩
  ·rw [if_neg h0]
   by_cases h1 : BN (s.extract i (AY s i)) = true
   ·rw [if_pos h1]
    by_cases h2 : 200 < k + 1
    ·rw [if_pos h2]
     exact ⟨l1, l2, Nat.le_succ _, by show k + 1 ≤ 201; omega, fun h => absurd h (by show ¬ (3 : Int) = 0; decide), by show (0 : Int) ≤ 3 ∧ (3 : Int) ≤ 13; decide⟩
    ·rw [if_neg h2]
     by_cases h3 : AY s i = s.size ∨ Ah s (AY s i) ≠ 40
     ·rw [if_pos h3]
      exact ⟨l1, l2, Nat.le_succ _, by show k + 1 ≤ 201; omega, fun _ => ⟨by show i < AY s i; omega, by show k + 1 ≤ 200; omega, Nat.lt_succ_self _, by show (Tm.mk _ []).size ≤ k + 1 - k; simp [Tm.size, Tm.sizes]⟩, by show (0 : Int) ≤ 0 ∧ (0 : Int) ≤ 13; decide⟩
     ·rw [if_neg h3]
      by_cases h4 : AU (s.extract i (AY s i)) = true
      ·rw [if_pos h4]
       exact ⟨l1, l2, Nat.le_succ _, by show k + 1 ≤ 201; omega, fun h => absurd h (by show ¬ (2 : Int) = 0; decide), by show (0 : Int) ≤ 2 ∧ (2 : Int) ≤ 13; decide⟩
      ·rw [if_neg h4]
       have hlt : AY s i < s.size := by
        have : AY s i ≠ s.size := fun h => h3 (.inl h)
        omega
       have := Ou s f (s.extract i (AY s i)) [] (AY s i) (k + 1) hlt (by omega) (by omega)
       refine ⟨Nat.le_trans l1 this.le, this.in_, by have := this.knots; omega, this.most, fun h => ?_, this.err⟩
       obtain ⟨q1, q2, q3, q4⟩ := this.ok h
       simp only [Tm.sizes] at q4
       exact ⟨by omega, q2, by omega, by omega⟩
   ·rw [if_neg h1]
    exact ⟨l1, l2, Nat.le_refl _, by show k ≤ 201; omega, fun h => absurd h (by show ¬ (1 : Int) = 0; decide), by show (0 : Int) ≤ 1 ∧ (1 : Int) ≤ 13; decide⟩
theorem Ou (s : ByteArray) : ∀ (f : Nat) (n : ByteArray) (acc : List Tm) (i k : Nat), i < s.size → k ≤ 200 → 2 * (s.size - i) ≤ f → RR s acc i k (rdA s f n acc i k)
 | 0, n, acc, i, k, hi, _, h => by omega
 | f + 1, n, acc, i, k, hi, hk, hf => by
  have h := O1 s f (i + 1) k (by omega) hk (by omega)
  have hle := h.le
  have hin := h.in_
  have hkn := h.knots
  have hmo := h.most
  rw [rdA]
  generalize rd s f (i + 1) k = r at *
  by_cases h0 : r.e = 0
  ·obtain ⟨o1, o2, o3, o4⟩ := h.ok h0
   rw [if_pos h0]
   by_cases h1 : r.i = s.size
   ·rw [if_pos h1]
    exact ⟨by show i ≤ r.i; omega, hin, hkn, hmo, fun h => absurd h (by show ¬ (13 : Int) = 0; decide), by show (0 : Int) ≤ 13 ∧ (13 : Int) ≤ 13; decide⟩
   ·rw [if_neg h1]
    by_cases h2 : Ah s r.i = 41
    ·rw [if_pos h2]
     refine ⟨by show i ≤ r.i + 1; omega, by show r.i + 1 ≤ s.size; omega, hkn, hmo, fun _ => ⟨by show i < r.i + 1; omega, o2, o3, ?_⟩, by show (0 : Int) ≤ 0 ∧ (0 : Int) ≤ 13; decide⟩
     show 1 + Tm.sizes (acc ++ [r.t]) ≤ _
     rw [H4]
     show _ ≤ r.k - k + _
     omega
    ·rw [if_neg h2]
     by_cases h3 : Ah s r.i = 44
     ·rw [if_pos h3]
      have := Ou s f n (acc ++ [r.t]) r.i r.k (by omega) o2 (by omega)
      refine ⟨by have := this.le; omega, this.in_, by have := this.knots; omega, this.most, fun h => ?_, this.err⟩
      obtain ⟨q1, q2, q3, q4⟩ := this.ok h
      rw [H4] at q4
      exact ⟨by omega, q2, by omega, by omega⟩
     ·rw [if_neg h3]
      exact ⟨by show i ≤ r.i; omega, hin, hkn, hmo, fun h => absurd h (by show ¬ (12 : Int) = 0; decide), by show (0 : Int) ≤ 12 ∧ (12 : Int) ≤ 13; decide⟩
  ·rw [if_neg h0]
   exact ⟨by show i ≤ r.i; omega, hin, hkn, hmo, fun h => absurd h h0, h.err⟩
end
def rdS (s : ByteArray) : Rd := rd s (2 * s.size + 1) 0 0
def Jh (s : ByteArray) : Tm × Int := if 4000 < s.size then (.mk ⟨#[]⟩ [], 3) else if (rdS s).e = 0 then (if (rdS s).i < s.size then (.mk ⟨#[]⟩ [], 12) else ((rdS s).t, 0)) else (.mk ⟨#[]⟩ [], (rdS s).e)

set_option linter.unusedSimpArgs false
set_option maxHeartbeats 1000000
theorem IWP.cut {P : Program} {C : Ctx} {mu : List Nat} {Q : AX → AS → Prop} {s : AS} {x : IR} (id : Nat) (M : AS → Prop) (h1 : IWP P C mu x (fun e s => e = .exit id ∧ M s) s) (h2 : ∀ s, M s → Q (.exit id) s) : IWP P C mu x Q s :=
 h1.mono fun e s h => by
  obtain ⟨rfl, hm⟩ := h
  exact h2 s hm
abbrev Jx : AL := .box 25 [.st (.str ⟨#[]⟩), .full []]
theorem P1 {s : ByteArray} {f i k : Nat} (h0 : AY s i = i) : rd s (f + 1) i k = ⟨.mk ⟨#[]⟩ [], i, k, if i = s.size then 13 else 12⟩ := by rw [rd, if_pos h0]
theorem QM {s : ByteArray} {f i k : Nat} (h0 : ¬ AY s i = i) (h1 : ¬ BN (s.extract i (AY s i)) = true) : rd s (f + 1) i k = ⟨.mk (s.extract i (AY s i)) [], AY s i, k, 1⟩ := by rw [rd, if_neg h0, if_neg h1]
theorem Of {s : ByteArray} {f i k : Nat} (h0 : ¬ AY s i = i) (h1 : BN (s.extract i (AY s i)) = true) (h2 : 200 < k + 1) : rd s (f + 1) i k = ⟨.mk (s.extract i (AY s i)) [], AY s i, k + 1, 3⟩ := by rw [rd, if_neg h0, if_pos h1, if_pos h2]
theorem Qf {s : ByteArray} {f i k : Nat} (h0 : ¬ AY s i = i) (h1 : BN (s.extract i (AY s i)) = true) (h2 : ¬ 200 < k + 1) (h3 : AY s i = s.size ∨ Ah s (AY s i) ≠ 40) : rd s (f + 1) i k = ⟨.mk (s.extract i (AY s i)) [], AY s i, k + 1, 0⟩ := by rw [rd, if_neg h0, if_pos h1, if_neg h2, if_pos h3]
theorem P7 {s : ByteArray} {f i k : Nat} (h0 : ¬ AY s i = i) (h1 : BN (s.extract i (AY s i)) = true) (h2 : ¬ 200 < k + 1) (h3 : ¬ (AY s i = s.size ∨ Ah s (AY s i) ≠ 40)) (h4 : AU (s.extract i (AY s i)) = true) : rd s (f + 1) i k = ⟨.mk (s.extract i (AY s i)) [], AY s i, k + 1, 2⟩ := by rw [rd, if_neg h0, if_pos h1, if_neg h2, if_neg h3, if_pos h4]
theorem QC {s : ByteArray} {f i k : Nat} (h0 : ¬ AY s i = i) (h1 : BN (s.extract i (AY s i)) = true) (h2 : ¬ 200 < k + 1) (h3 : ¬ (AY s i = s.size ∨ Ah s (AY s i) ≠ 40)) (h4 : ¬ AU (s.extract i (AY s i)) = true) : rd s (f + 1) i k = rdA s f (s.extract i (AY s i)) [] (AY s i) (k + 1) := by rw [rd, if_neg h0, if_pos h1, if_neg h2, if_neg h3, if_neg h4]
theorem Qc {s : ByteArray} {f : Nat} {n : ByteArray} {acc : List Tm} {i k : Nat} (h : ¬ (rd s f (i + 1) k).e = 0) : rdA s (f + 1) n acc i k = ⟨.mk n acc, (rd s f (i + 1) k).i, (rd s f (i + 1) k).k, (rd s f (i + 1) k).e⟩ := by rw [rdA, if_neg h]
theorem NF {s : ByteArray} {f : Nat} {n : ByteArray} {acc : List Tm} {i k : Nat} (h : (rd s f (i + 1) k).e = 0) (h1 : (rd s f (i + 1) k).i = s.size) : rdA s (f + 1) n acc i k = ⟨.mk n (acc ++ [(rd s f (i + 1) k).t]), (rd s f (i + 1) k).i, (rd s f (i + 1) k).k, 13⟩ := by rw [rdA, if_pos h, if_pos h1]
theorem Ns {s : ByteArray} {f : Nat} {n : ByteArray} {acc : List Tm} {i k : Nat} (h : (rd s f (i + 1) k).e = 0) (h1 : ¬ (rd s f (i + 1) k).i = s.size) (h2 : Ah s (rd s f (i + 1) k).i = 41) : rdA s (f + 1) n acc i k = ⟨.mk n (acc ++ [(rd s f (i + 1) k).t]), (rd s f (i + 1) k).i + 1, (rd s f (i + 1) k).k, 0⟩ := by rw [rdA, if_pos h, if_neg h1, if_pos h2]
theorem RE {s : ByteArray} {f : Nat} {n : ByteArray} {acc : List Tm} {i k : Nat} (h : (rd s f (i + 1) k).e = 0) (h1 : ¬ (rd s f (i + 1) k).i = s.size) (h2 : ¬ Ah s (rd s f (i + 1) k).i = 41) (h3 : Ah s (rd s f (i + 1) k).i = 44) : rdA s (f + 1) n acc i k = rdA s f n (acc ++ [(rd s f (i + 1) k).t]) (rd s f (i + 1) k).i (rd s f (i + 1) k).k := by rw [rdA, if_pos h, if_neg h1, if_neg h2, if_pos h3]
theorem Ph {s : ByteArray} {f : Nat} {n : ByteArray} {acc : List Tm} {i k : Nat} (h : (rd s f (i + 1) k).e = 0) (h1 : ¬ (rd s f (i + 1) k).i = s.size) (h2 : ¬ Ah s (rd s f (i + 1) k).i = 41) (h3 : ¬ Ah s (rd s f (i + 1) k).i = 44) : rdA s (f + 1) n acc i k = ⟨.mk n (acc ++ [(rd s f (i + 1) k).t]), (rd s f (i + 1) k).i, (rd s f (i + 1) k).k, 12⟩ := by rw [rdA, if_pos h, if_neg h1, if_neg h2, if_neg h3]
theorem I5 (acc : List Tm) (a : Tm) : (acc ++ [a]).map Ay = acc.map Ay ++ [[.str a.name, .list (a.args.map Ay)]] := by
 rw [List.map_append, List.map_cons, List.map_nil, Ac a]
def M3 (r : Tm × Int) : AV := .tup [aTm r.1, Ab r.2]

theorem Ak.kill {C : Ctx} {s : AS} (id : Nat) {ty : TypeId} {xs : List AC} (hS : s.S id = some (.box ty xs)) : Ak C s (s.set id (.dead 1 0)) := fun a w ⟨σ, ι, R⟩ => by
 have hb := R.blk _ _ hS
 cases hb with
 | @box _ _ g vs h1 h2 h3 h4 h5 =>
  obtain ⟨hu, R'⟩ := R.turn (w' := w) hS (.dead 1 0) (ι id) (σ' := σ) (fun _ _ h => h) (fun _ _ _ => rfl) R.fit (Nat.le_refl _) (fun _ => ⟨rfl, rfl⟩) ⟨rfl, rfl, rfl⟩ (Nat.le_refl _) (fun _ _ _ => rfl) (fun g h => .inl h)
   (fun hu => .dead fun g' hg' => by rw [h1] at hg'; cases hg'; exact ⟨_, h3, rfl⟩)
  exact ⟨σ, _, R'⟩
theorem Mi {C : Ctx} {v : Value} {s : AS} {S : AA} {a0 : Nat} (hS : Aq S) (ha : 1000 ≤ a0) (h3 : s.S a0 = some (.dead 1 0)) (h4 : ∀ i, 1000 ≤ i → i ≠ a0 → s.S i = S i) : Qd C v (AK S a0 (some (.dead 1 0))) (.pan v) s :=
 ⟨rfl, _, Ak.low (Kw hS rfl h3 h4), Mg hS ha h3 h4, Ci hS ha rfl⟩
theorem OM {C : Ctx} {v : Value} {s : AS} {S : AA} {a0 : Nat} {ty : TypeId} {xs : List AC} (hS : Aq S) (ha : 1000 ≤ a0) (h3 : s.S a0 = some (.box ty xs)) (h4 : ∀ i, 1000 ≤ i → i ≠ a0 → s.S i = S i) : Qd C v (AK S a0 (some (.dead 1 0))) (.pan v) s := by
 obtain ⟨h1, s2, hg, h5, h6⟩ := Mi (C := C) (v := v) (s := s.set a0 (.dead 1 0)) hS ha (AE _ _ _) (fun i hi hne => (AM _ hne _).trans (h4 i hi hne))
 exact ⟨h1, s2, (Ak.kill a0 h3).trans hg, h5, h6⟩

set_option maxHeartbeats 1600000
def C5 (u : ByteArray) : Bool := decide (0 < u.size) && decide (C3 u 0 = 40)
theorem KZ {u : ByteArray} (h : 0 < u.size) : u.extract 0 1 = ⟨#[40]⟩ ↔ C3 u 0 = 40 := by
 have e1 : (u.extract 0 1).data.toList = u.data.toList.take 1 := by
  rw [ByteArray.data_extract, Array.toList_extract, List.extract_eq_take_drop]
  rfl
 have hl : 0 < u.data.toList.length := h
 unfold C3
 obtain ⟨c, l, hc⟩ : ∃ c l, u.data.toList = c :: l := by
  cases hu : u.data.toList with
  | nil => rw [hu] at hl; cases hl
  | cons c l => exact ⟨c, l, rfl⟩
 rw [hc] at e1 ⊢
 constructor
 ·intro he
  rw [he] at e1
  have : c = 40 := by
   have h2 : [40] = [c] := e1
   injection h2 with h3
   exact h3.symm
  subst this
  rfl
 ·intro he
  have hc40 : c = 40 := by
   have : c.toNat = 40 := by
    have h' : ((c.toNat : Nat) : Int) = 40 := he
    omega
   exact UInt8.toNat_inj.1 this
  subst hc40
  apply ByteArray.ext
  apply Array.toList_inj.1
  rw [e1]
  rfl
theorem Ju (u : ByteArray) : AW Try.prog 41 [CO u, CO ⟨#[40]⟩] (Aj (C5 u)) := by
 have h40i : ((#[(40 : UInt8)].size : Nat) : Int) = 1 := rfl
 by_cases h0 : u.size = 0
 ·have hb : C5 u = false := by unfold C5; rw [h0]; rfl
  rw [hb]
  have h0i : ¬ (1 : Int) ≤ u.size := by omega
  refine BQ.ac fun C hC => ?_
  unfold A6
  repeat' with_reducible first | refine W ?_ | refine Z0 ?_ | ((first | refine Wo fun K hK => ?_ | refine Wp ?_ | refine Wq ?_ | refine Wr ?_); (try simp only [go_sem, fN, seval, eT, iR, h0i, h40i, dT, dF, nL]); (repeat refine Ai ?_); (try (refine hK _ ?_; clear hK K)); try refine iC ?_)
  simp only [go_sem, fN, seval, AZ, AS.result, AB, AF, AP]
 ·have h0i : (1 : Int) ≤ u.size := by omega
  have he := KZ (u := u) (by omega)
  have hb : C5 u = decide (u.extract 0 1 = ⟨#[40]⟩) := by
   unfold C5
   rw [decide_eq_true (by omega : 0 < u.size), Bool.true_and]
   exact decide_eq_decide.2 he.symm
  rw [hb]
  refine BQ.ac fun C hC => ?_
  unfold A6
  repeat' with_reducible first | refine W ?_ | refine Z0 ?_ | ((first | refine Wo fun K hK => ?_ | refine Wp ?_ | refine Wq ?_ | refine Wr ?_); (try simp only [go_sem, fN, seval, eT, iR, h0i, h40i, dT, dF, nL]); (repeat refine Ai ?_); (try (refine hK _ ?_; clear hK K)); try refine iC ?_)
  simp only [go_sem, fN, seval, AZ, AS.result, AB, AF, AP]
theorem Ej (u : ByteArray) : AW Try.prog 35 [CO u, CO ⟨#[40]⟩] (Aj (C5 u)) := by
 refine El.ac fun C hC => ?_
 unfold Cs
 repeat' (first | (with_reducible first | refine W ?_ | refine Z0 ?_ | ((first | refine Wo fun K hK => ?_ | refine Wp ?_ | refine Wq ?_ | refine Wr ?_); (try simp only [go_sem, fN, seval, eT, iR, dT, dF, nL]); (repeat refine Ai ?_); (try (refine hK _ ?_; clear hK K)); try refine iC ?_)) | refine Cg _ (Ju u) ?_)
 simp only [go_sem, fN, seval, AZ, AS.result, AB, AF, AP]
abbrev Jt (u : ByteArray) (l : Int) : AL := .box 66 [.st (.str u), .st (.int .i64 l)]
abbrev Hr (e : Int) : Value := .iface 62 (.int .i64 e)
theorem Hp {s : ByteArray} {i : Nat} (hi : i ≤ s.size) : A8 s i = ⟨#[]⟩ ↔ i = s.size := by
 constructor
 ·intro h
  have := Cj s i
  rw [h] at this
  have h0 : (⟨#[]⟩ : ByteArray).size = 0 := rfl
  omega
 ·intro h
  have := Cj s i
  exact ByteArray.size_eq_zero_iff.1 (by omega)
def Rb (s : ByteArray) (r : Rd) (b : Nat) (S : AA) (x : AS) : Prop := ∃ r0, (AB x [RV.cell 2 true 2]).map AP = some r0 ∧ outV x.S r0 = some (aTm r.t) ∧ x.S b = some (Jt (A8 s r.i) (200 - r.k)) ∧ ∀ i, 1000 ≤ i → i ≠ b → x.S i = S i
def OT (b : Nat) (S : AA) (x : AS) : Prop := ((∃ ty xs, x.S b = some (.box ty xs)) ∨ x.S b = some (.dead 1 0)) ∧ ∀ i, 1000 ≤ i → i ≠ b → x.S i = S i
theorem CG {b : Nat} {S : AA} {x : AS} {u : ByteArray} {l : Int} (h : x.S b = some (Jt u l)) (h2 : ∀ i, 1000 ≤ i → i ≠ b → x.S i = S i) : OT b S x := ⟨.inl ⟨_, _, h⟩, h2⟩
def Qq (s : ByteArray) (r : Rd) (b : Nat) (S : AA) : Prop :=
 (r.e = 0 → An Try.prog 26 [.one (.ptr b 1 0 0)] S (aTm r.t) (AK S b (some (Jt (A8 s r.i) (200 - r.k))))) ∧
 (r.e ≠ 0 → PX Try.prog 26 [.one (.ptr b 1 0 0)] S (Hr r.e) (AK S b (some (.dead 1 0))))
theorem Pk {s : ByteArray} {r : Rd} {b : Nat} {S : AA} (hb : 1000 ≤ b) (h : Aq S → ∀ (C : Ctx) (Q : AX → AS → Prop), C.n = 125 → (r.e = 0 → ∀ x, Rb s r b S x → Q .ret x) → (r.e ≠ 0 → ∀ x, OT b S x → Q (.pan (Hr r.e)) x) → IWP Try.prog C [90] BH Q (AS.startS [.one (.ptr b 1 0 0)] S)) : Qq s r b S := by
 refine ⟨fun he => ?_, fun he => ?_⟩
 ·refine Bi.acS fun hS C hC => h hS C _ hC (fun _ x hx => ?_) (fun hne => absurd he hne)
  obtain ⟨r0, h1, h2, h3, h4⟩ := hx
  exact CX r0 hS hb rfl trivial h1 h2 h3 h4
 ·refine Bi.acP fun hS C hC => h hS C _ hC (fun h0 => absurd h0 he) (fun _ x hx => ?_)
  obtain ⟨⟨ty, xs, h1⟩ | h1, h2⟩ := hx
  ·exact OM hS hb h1 h2
  ·exact Mi hS hb h1 h2
def Re (s : ByteArray) (r : Rd) (f : Nat) (nm : ByteArray) (acc : List Tm) (j c : Nat) (more : Bool) : Prop :=
 (more = true ∧ ∃ g, r = rdA s g nm acc j c ∧ 2 * (s.size - j) ≤ g ∧ g ≤ f ∧ j < s.size) ∨ (more = false ∧ r = ⟨.mk nm acc, j + 1, c, 0⟩ ∧ j < s.size)
theorem QK (s : ByteArray) (hs : s.size ≤ 100000) : ∀ f i k : Nat, i ≤ s.size → k ≤ 200 → 2 * (s.size - i) < f → ∀ (b : Nat) (S : AA), 1000 ≤ b → S b = some (Jt (A8 s i) (200 - k)) → Qq s (rd s f i k) b S := by
 intro f
 induction f using Nat.strongRecOn with
 | _ f ih =>
 intro i k hi hk hf b S hb sb
 obtain ⟨f, rfl⟩ : ∃ g, f = g + 1 := ⟨f - 1, by omega⟩
 obtain ⟨l1, l2⟩ := KO hi
 have hus := Cj s i
 refine Pk hb fun hS C Q hC hok hpan => ?_
 have n2 : S 2 = none := AQ hS (by omega)
 have n4 : S 4 = none := AQ hS (by omega)
 have n900 : S 900 = none := AQ hS (by omega)
 have e2 : ¬ b = 2 := by omega
 have e4 : ¬ b = 4 := by omega
 have e900 : ¬ b = 900 := by omega
 have d2 : ¬ 2 = b := by omega
 have d4 : ¬ 4 = b := by omega
 have d900 : ¬ 900 = b := by omega
 unfold BH
 repeat' with_reducible first | refine W ?_ | refine Z0 ?_ | ((first | refine Wx rfl fun K hK => ?_ | refine Wp ?_ | refine Wq ?_ | refine Wr ?_); (try simp only [go_sem, fN, seval, eT, iR, n2, e2, d2, dT, dF, nL]); (repeat refine Ai ?_); (try (refine hK _ ?_; clear hK K)); try refine iC ?_)
 refine IWP.cut 0 (fun x => x.env 0 = .one (.ptr b 1 0 0) ∧ x.env 2 = .one (.ptr 2 1 0 0) ∧ x.env 3 = Ab ((AY s i - i : Nat) : Int) ∧ x.S 2 = some Jx ∧ x.S 4 = none ∧ x.S 900 = none ∧ x.S b = some (Jt (A8 s i) (200 - k)) ∧ ∀ i, 1000 ≤ i → i ≠ b → x.S i = S i) ?_ ?_
 ·refine IWP.loop (fun m x => ∃ j, i + j ≤ s.size ∧ m = s.size - i - j ∧ AY s i = AY s (i + j) ∧ x.env 0 = .one (.ptr b 1 0 0) ∧ x.env 2 = .one (.ptr 2 1 0 0) ∧ x.env 3 = Ab j ∧ x.S 2 = some Jx ∧ x.S 4 = none ∧ x.S 900 = none ∧ x.S b = some (Jt (A8 s i) (200 - k)) ∧ ∀ i, 1000 ≤ i → i ≠ b → x.S i = S i) (s.size - i) ⟨0, hi, rfl, rfl, rfl, rfl, rfl, by simp only [go_sem, fN, seval, eT, iR], by simp only [go_sem, fN, seval, eT, iR, n4], by simp only [go_sem, fN, seval, eT, iR, n900], by simp only [go_sem, fN, seval, eT, iR, e2, sb], fun i hi hne => ?_⟩ ?_
  ·have i2 : ¬ i = 2 := by omega
   simp only [go_sem, fN, seval, eT, iR, i2]
  rintro m ⟨env, S1⟩ ⟨j, hj, rfl, hl, v0, v2, v3, t2, t4, t900, tb, hrest⟩
  simp only at v0 v2 v3 t2 t4 t900 tb hrest
  by_cases hlt : (j : Int) < (A8 s i).size
  ·have hbt := D5 (s := s) (i := i) (k := j) (by omega)
   have hbr := Fr s (i + j)
   rw [← hbt] at hbr
   by_cases hlet : Bp (C3 (A8 s i) j) = true
   ·repeat' (first | (with_reducible first | refine W ?_ | refine Z0 ?_ | ((first | refine Wx rfl fun K hK => ?_ | refine Wp ?_ | refine Wq ?_ | refine Wr ?_); (try simp only [go_sem, fN, seval, eT, iR, v0, v2, v3, t2, t4, t900, tb, hlt, hlet, dT, dF, nL]); (repeat refine Ai ?_); (try (refine hK _ ?_; clear hK K)); try refine iC ?_)) | refine Cg _ (Hn (C3 (A8 s i) j) hbr.1) ?_)
    refine AI ⟨s.size - i - (j + 1), by omega, j + 1, by omega, rfl, ?_, ?_⟩
    ·rw [hl]
     exact O7 (by omega) (by rw [← hbt]; exact hlet)
    ·simp only [go_sem, fN, seval, eT, iR, v0, v2, v3, t2, t4, t900, tb]
     exact ⟨by congr 3, hrest⟩
   ·have hst : AY s (i + j) = i + j := Lt (by omega) (by rw [← hbt]; exact hlet)
    repeat' (first | (with_reducible first | refine W ?_ | refine Z0 ?_ | ((first | refine Wx rfl fun K hK => ?_ | refine Wp ?_ | refine Wq ?_ | refine Wr ?_); (try simp only [go_sem, fN, seval, eT, iR, v0, v2, v3, t2, t4, t900, tb, hlt, hlet, dT, dF, nL]); (repeat refine Ai ?_); (try (refine hK _ ?_; clear hK K)); try refine iC ?_)) | refine Cg _ (Hn (C3 (A8 s i) j) hbr.1) ?_)
    refine ⟨rfl, ?_⟩
    simp only [go_sem, fN, seval, eT, iR, v0, v2, v3, t2, t4, t900, tb]
    refine ⟨?_, hrest⟩
    rw [hl, hst]
    congr 4
    omega
  ·have hst : AY s (i + j) = i + j := NE (by omega)
   repeat' with_reducible first | refine W ?_ | refine Z0 ?_ | ((first | refine Wx rfl fun K hK => ?_ | refine Wp ?_ | refine Wq ?_ | refine Wr ?_); (try simp only [go_sem, fN, seval, eT, iR, v0, v2, v3, t2, t4, t900, tb, hlt, dT, dF, nL]); (repeat refine Ai ?_); (try (refine hK _ ?_; clear hK K)); try refine iC ?_)
   refine ⟨rfl, ?_⟩
   simp only [go_sem, fN, seval, eT, iR, v0, v2, v3, t2, t4, t900, tb]
   refine ⟨?_, hrest⟩
   rw [hl, hst]
   congr 4
   omega
 rintro ⟨env, S1⟩ ⟨v0, v2, v3, t2, t4, t900, tb, hrest⟩
 simp only at v0 v2 v3 t2 t4 t900 tb hrest
 have htn := Hp hi
 by_cases h0 : AY s i = i
 ·rw [P1 h0] at hok hpan
  have hz : ((AY s i - i : Nat) : Int) = 0 := by omega
  rw [hz] at v3
  by_cases h1 : i = s.size
  ·have ht := htn.2 h1
   rw [if_pos h1] at hpan
   repeat' with_reducible first | refine W ?_ | refine Z0 ?_ | ((first | refine Wx rfl fun K hK => ?_ | refine Wp ?_ | refine Wq ?_ | refine Wr ?_); (try simp only [go_sem, fN, seval, eT, iR, v0, v2, v3, t2, t4, t900, tb, ht, dT, dF, nL]); (repeat refine Ai ?_); (try (refine hK _ ?_; clear hK K)); try refine iC ?_)
   refine IWP.opsPan 1 _ rfl (by kernel_rfl) ?_
   simp only [go_sem, fN, seval, eT, iR, Bj, List.take_succ_cons, List.take_zero]
   intro envP
   repeat' (with_reducible first | refine Wy ?_ | refine Wz ?_ | refine Wv ?_)
   exact hpan (by show ¬ (13 : Int) = 0; decide) _ (CG tb hrest)
  ·have ht : ¬ A8 s i = ⟨#[]⟩ := fun h => h1 (htn.1 h)
   rw [if_neg h1] at hpan
   repeat' with_reducible first | refine W ?_ | refine Z0 ?_ | ((first | refine Wx rfl fun K hK => ?_ | refine Wp ?_ | refine Wq ?_ | refine Wr ?_); (try simp only [go_sem, fN, seval, eT, iR, v0, v2, v3, t2, t4, t900, tb, ht, dT, dF, nL]); (repeat refine Ai ?_); (try (refine hK _ ?_; clear hK K)); try refine iC ?_)
   refine IWP.opsPan 1 _ rfl (by kernel_rfl) ?_
   simp only [go_sem, fN, seval, eT, iR, Bj, List.take_succ_cons, List.take_zero]
   intro envP
   repeat' (with_reducible first | refine Wy ?_ | refine Wz ?_ | refine Wv ?_)
   exact hpan (by show ¬ (12 : Int) = 0; decide) _ (CG tb hrest)
 obtain ⟨n0, hn0⟩ : ∃ n0, AY s i = i + n0 := ⟨AY s i - i, by omega⟩
 have hq : AY s i - i = n0 := by omega
 rw [hq] at v3
 have q1 : ¬ (n0 : Int) = 0 := by omega
 have hin0 : i + n0 ≤ s.size := by omega
 obtain ⟨nm, hnm⟩ : ∃ nm, s.extract i (i + n0) = nm := ⟨_, rfl⟩
 have hext : (A8 s i).extract 0 n0 = nm := (NO hin0).trans hnm
 have hdr := tail_drop (s := s) (i := i) (n := n0) hin0
 by_cases h1 : BN nm = true
 case neg =>
  rw [QM h0 (by rw [hn0, hnm]; exact h1)] at hok hpan
  repeat' (first | (with_reducible first | refine W ?_ | refine Z0 ?_ | ((first | refine Wx rfl fun K hK => ?_ | refine Wp ?_ | refine Wq ?_ | refine Wr ?_); (try simp only [go_sem, fN, seval, eT, iR, v0, v2, v3, t2, t4, t900, tb, q1, hext, h1, dT, dF, nL]); (repeat refine Ai ?_); (try (refine hK _ ?_; clear hK K)); try refine iC ?_)) | refine Cg _ (Fd nm) ?_)
  refine IWP.opsPan 1 _ rfl (by kernel_rfl) ?_
  simp only [go_sem, fN, seval, eT, iR, Bj, List.take_succ_cons, List.take_zero]
  intro envP
  repeat' (with_reducible first | refine Wy ?_ | refine Wz ?_ | refine Wv ?_)
  refine hpan (by show ¬ (1 : Int) = 0; decide) _ (CG (u := A8 s i) (l := 200 - k) ?_ fun i hi hne => ?_)
  ·simp only [go_sem, fN, seval, eT, iR, tb, e4]
  ·have i4 : ¬ i = 4 := by omega
   simp only [go_sem, fN, seval, eT, iR, i4]
   exact hrest i hi hne
 case pos =>
 have hk1 : ((200 : Int) - k - 1 < 0) ↔ 200 < k + 1 := by omega
 by_cases h2 : 200 < k + 1
 ·have h2i : (200 : Int) - k - 1 < 0 := hk1.2 h2
  rw [Of h0 (by rw [hn0, hnm]; exact h1) h2] at hok hpan
  repeat' (first | (with_reducible first | refine W ?_ | refine Z0 ?_ | ((first | refine Wx rfl fun K hK => ?_ | refine Wp ?_ | refine Wq ?_ | refine Wr ?_); (try simp only [go_sem, fN, seval, eT, iR, v0, v2, v3, t2, t4, t900, tb, q1, hext, h1, h2i, e4, dT, dF, nL]); (repeat refine Ai ?_); (try (refine hK _ ?_; clear hK K)); try refine iC ?_)) | refine Cg _ (Fd nm) ?_)
  refine IWP.opsPan 1 _ rfl (by kernel_rfl) ?_
  simp only [go_sem, fN, seval, eT, iR, Bj, List.take_succ_cons, List.take_zero]
  intro envP
  repeat' (with_reducible first | refine Wy ?_ | refine Wz ?_ | refine Wv ?_)
  refine hpan (by show ¬ (3 : Int) = 0; decide) _ (CG (u := A8 s i) (l := 200 - k - 1) ?_ fun i hi hne => ?_)
  ·simp only [go_sem, fN, seval, eT, iR, tb, e4]
  ·have i4 : ¬ i = 4 := by omega
   simp only [go_sem, fN, seval, eT, iR, i4, hne]
   exact hrest i hi hne
 have h2i : ¬ (200 : Int) - k - 1 < 0 := fun h => h2 (hk1.1 h)
 have hus2 := Cj s (i + n0)
 by_cases h3 : C5 (A8 s (i + n0)) = true
 case neg =>
  have h3' : AY s i = s.size ∨ Ah s (AY s i) ≠ 40 := by
   rw [hn0]
   by_cases hz : i + n0 = s.size
   ·exact .inl hz
   ·refine .inr fun h40 => h3 ?_
    have hbt := D5 (s := s) (i := i + n0) (k := 0) (by omega)
    rw [Nat.add_zero, h40] at hbt
    unfold C5
    rw [hbt, hus2]
    simp
    omega
  rw [Qf h0 (by rw [hn0, hnm]; exact h1) h2 h3', hn0, hnm] at hok hpan
  repeat' (first | (with_reducible first | refine W ?_ | refine Z0 ?_ | ((first | refine Wx rfl fun K hK => ?_ | refine Wp ?_ | refine Wq ?_ | refine Wr ?_); (try simp only [go_sem, fN, seval, eT, iR, v0, v2, v3, t2, t4, t900, tb, q1, hext, hdr, h1, h2i, h3, e4, d4, e2, d2, dT, dF, nL]); (repeat refine Ai ?_); (try (refine hK _ ?_; clear hK K)); try refine iC ?_)) | refine Cg _ (Fd nm) ?_ | refine Cg _ (Ej (A8 s (i + n0))) ?_)
  refine hok rfl _ ⟨.agg [.st (.str nm), .full []], ?_, ?_, ?_, fun i hi hne => ?_⟩
  ·simp only [go_sem, fN, seval, eT, iR, AB, AF, AP, v0, v2, v3, t2, t4, t900, tb, e4, d4, e2, d2]
  ·simp only [go_sem, fN, seval, eT, iR]
   rfl
  ·simp only [go_sem, fN, seval, eT, iR, tb, e4, e2, hdr]
   rw [show (200 : Int) - ((k + 1 : Nat) : Int) = 200 - k - 1 by omega]
  ·have i4 : ¬ i = 4 := by omega
   have i2 : ¬ i = 2 := by omega
   simp only [go_sem, fN, seval, eT, iR, i4, i2, hne]
   exact hrest i hi hne
 case pos =>
 have h3n : ¬ (AY s i = s.size ∨ Ah s (AY s i) ≠ 40) := by
  unfold C5 at h3
  rw [Bool.and_eq_true, decide_eq_true_eq, decide_eq_true_eq, hus2] at h3
  have hbt := D5 (s := s) (i := i + n0) (k := 0) (by omega)
  rw [hn0]
  intro h
  rcases h with h | h
  ·omega
  ·exact h (by rw [Nat.add_zero] at hbt; rw [← hbt]; exact h3.2)
 by_cases h4 : AU nm = true
 ·rw [P7 h0 (by rw [hn0, hnm]; exact h1) h2 h3n (by rw [hn0, hnm]; exact h4)] at hok hpan
  repeat' (first | (with_reducible first | refine W ?_ | refine Z0 ?_ | ((first | refine Wx rfl fun K hK => ?_ | refine Wp ?_ | refine Wq ?_ | refine Wr ?_); (try simp only [go_sem, fN, seval, eT, iR, v0, v2, v3, t2, t4, t900, tb, q1, hext, hdr, h1, h2i, h3, h4, e4, d4, e2, d2, dT, dF, nL]); (repeat refine Ai ?_); (try (refine hK _ ?_; clear hK K)); try refine iC ?_)) | refine Cg _ (Fd nm) ?_ | refine Cg _ (Ej (A8 s (i + n0))) ?_ | refine Cg _ (Ax nm) ?_)
  refine IWP.opsPan 1 _ rfl (by kernel_rfl) ?_
  simp only [go_sem, fN, seval, eT, iR, Bj, List.take_succ_cons, List.take_zero]
  intro envP
  repeat' (with_reducible first | refine Wy ?_ | refine Wz ?_ | refine Wv ?_)
  refine hpan (by show ¬ (2 : Int) = 0; decide) _ (CG (u := A8 s (i + n0)) (l := 200 - k - 1) ?_ fun i hi hne => ?_)
  ·simp only [go_sem, fN, seval, eT, iR, tb, e4, hdr]
  ·have i4 : ¬ i = 4 := by omega
   simp only [go_sem, fN, seval, eT, iR, i4, hne]
   exact hrest i hi hne
 rw [QC h0 (by rw [hn0, hnm]; exact h1) h2 h3n (by rw [hn0, hnm]; exact h4), hn0, hnm] at hok hpan
 have hlt0 : i + n0 < s.size := by
  have : AY s i ≠ s.size := fun h => h3n (.inl h)
  omega
 have hf0 : 2 * (s.size - (i + n0)) ≤ f := by omega
 generalize i + n0 = to at *
 repeat' (first | (with_reducible first | refine W ?_ | refine Z0 ?_ | ((first | refine Wx rfl fun K hK => ?_ | refine Wp ?_ | refine Wq ?_ | refine Wr ?_); (try simp only [go_sem, fN, seval, eT, iR, v0, v2, v3, t2, t4, t900, tb, q1, hext, hdr, h1, h2i, h3, h4, e4, d4, e2, d2, dT, dF, nL]); (repeat refine Ai ?_); (try (refine hK _ ?_; clear hK K)); try refine iC ?_)) | refine Cg _ (Fd nm) ?_ | refine Cg _ (Ej (A8 s to)) ?_ | refine Cg _ (Ax nm) ?_)
 generalize hr : rdA s f nm [] to (k + 1) = r at hok hpan
 refine IWP.ghost (Ak.ownC 4 1 900 25 2 (xs := ([] : List Tm).map Ay) (by simp only [go_sem, fN, seval, eT, iR, e4, d4, e2, d2, t4]; rfl) rfl (by simp only [go_sem, fN, seval, eT, iR, t900, d900, e900]) FC) ?_
 refine IWP.loop (fun m x => ∃ (acc : List Tm) (j c : Nat) (more : Bool), Re s r f nm acc j c more ∧ m = s.size - j ∧ c ≤ 200 ∧ acc.length ≤ c ∧ x.env 0 = .one (.ptr b 1 0 0) ∧ x.env 2 = .one (.ptr 2 1 0 0) ∧ x.env 4 = .one (.ptr 4 1 0 0) ∧ x.env 5 = Aj more ∧ x.S 2 = some Jx ∧ x.S 4 = some (.box 25 [.st (.str nm), .row 900 acc.length]) ∧ x.S 900 = some (.arow 25 2 (acc.map Ay)) ∧ x.S b = some (Jt (A8 s j) (200 - c)) ∧ ∀ i, 1000 ≤ i → i ≠ b → x.S i = S i)
  (s.size - to) ⟨[], to, k + 1, true, .inl ⟨rfl, f, hr.symm, hf0, Nat.le_refl _, hlt0⟩, rfl, by omega, by simp, ?_⟩ ?_
 ·simp only [go_sem, fN, seval, eT, iR, v0, v2, v3, t2, t4, t900, tb, e4, d4, e2, d2, e900, d900]
  refine ⟨rfl, by rw [show (200 : Int) - ((k + 1 : Nat) : Int) = 200 - k - 1 by omega], fun i' hi' hne' => ?_⟩
  have i4 : ¬ i' = 4 := by omega
  have i900 : ¬ i' = 900 := by omega
  simp only [go_sem, fN, seval, eT, iR, i4, i900, hne']
  exact hrest i' hi' hne'
 clear hr hf0 hlt0 v0 v2 v3 t2 t4 t900 tb hrest hext hdr hnm h3 h3n hus2 hin0 hq
 rintro m ⟨env, S2⟩ ⟨acc, j, c, more, hinv, rfl, hc, hac, v0, v2, v4, v5, t2, t4, t900, tb, hrest⟩
 simp only at v0 v2 v4 v5 t2 t4 t900 tb hrest
 have hal : (acc.map Ay).length = acc.length := List.length_map _
 have husj := Cj s j
 rcases hinv with ⟨rfl, g, hr, hg, hgf, hj⟩ | ⟨rfl, hr, hj⟩
 ·have hdr := tail_drop (s := s) (i := j) (n := 1) (by omega)
  obtain ⟨g, rfl⟩ : ∃ g', g = g' + 1 := ⟨g - 1, by omega⟩
  have hcall := fun S' (h : S' (up1 b) = some (Jt (A8 s (j + 1)) (200 - c))) => ih g (by omega) (j + 1) c (by omega) hc (by omega) (up1 b) S' (A5 b) h
  have hq := O1 s g (j + 1) c (by omega) hc (by omega)
  have hqle := hq.le
  have hqin := hq.in_
  by_cases he : (rd s g (j + 1) c).e = 0
  case neg =>
   rw [Qc he] at hr
   repeat' (first | (with_reducible first | refine W ?_ | refine Z0 ?_) | (first | refine IWP.opsPan 3 ⟨some 90, none, .callS 26 [.t 89], .keeps [4, 4]⟩ rfl (by kernel_rfl) ?_) | (with_reducible ((first | refine Wx rfl fun K hK => ?_ | refine Wp ?_ | refine Wq ?_ | refine Wr ?_); (try simp only [go_sem, fN, seval, eT, iR, v0, v2, v4, v5, t2, t4, t900, tb, hdr, e4, d4, e2, d2, e900, d900, dT, dF, nL]); (repeat refine Ai ?_); (try (refine hK _ ?_; clear hK K)); try refine iC ?_)))
   simp only [go_sem, fN, seval, eT, iR, Bj, List.take_succ_cons, List.take_zero, v0, v2, v4, v5, t2, t4, t900, tb, hdr, e4, d4, e2, d2, e900, d900]
   subst hr
   refine ⟨_, _, (hcall _ (by rw [A7, AE]; rfl)).2 he, fun envP => ?_⟩
   repeat' (with_reducible first | refine Wy ?_ | refine Wz ?_ | refine Wv ?_)
   refine hpan he _ ⟨.inr ?_, fun i hi hne => ?_⟩
   ·simp only [go_sem, fN, seval, eT, iR]
   ·simp only [go_sem, fN, seval, eT, iR, hne]
    exact hrest i hi hne
  case pos =>
  obtain ⟨o1, o2, o3, o4⟩ := hq.ok he
  have husq := Cj s (rd s g (j + 1) c).i
  have hnq := Hp hqin
  repeat' with_reducible first | refine W ?_ | refine Z0 ?_ | ((first | refine Wx rfl fun K hK => ?_ | refine Wp ?_ | refine Wq ?_ | refine Wr ?_); (try simp only [go_sem, fN, seval, eT, iR, v0, v2, v4, v5, t2, t4, t900, tb, hdr, e4, d4, e2, d2, e900, d900, dT, dF, nL]); (repeat refine Ai ?_); (try (refine hK _ ?_; clear hK K)); try refine iC ?_)
  refine ⟨_, _, (hcall _ (by rw [A7, AE]; rfl)).1 he, ?_⟩
  have c1 := fun h => hr.trans (NF (n := nm) (acc := acc) he h)
  have c2 := fun h h' => hr.trans (Ns (n := nm) (acc := acc) he h h')
  have c3 := fun h h' h'' => hr.trans (RE (n := nm) (acc := acc) he h h' h'')
  have c4 := fun h h' h'' => hr.trans (Ph (n := nm) (acc := acc) he h h' h'')
  clear hcall ih hr
  generalize rd s g (j + 1) c = q at *
  have hal2 : acc.length + 1 ≤ 1000000 := by omega
  by_cases q1 : q.i = s.size
  ·have hq1 := hnq.2 q1
   rw [c1 q1] at hpan
   repeat' with_reducible first | refine W ?_ | refine Z0 ?_ | ((first | refine Wx rfl fun K hK => ?_ | refine Wp ?_ | refine Wq ?_ | refine Wr ?_); (try simp only [go_sem, fN, seval, eT, iR, v0, v2, v4, v5, t2, t4, t900, tb, hdr, e4, d4, e2, d2, e900, d900, hal, hq1, dT, dF, nL]); (repeat refine Ai ?_); (try (refine hK _ ?_; clear hK K)); try refine iC ?_)
   refine IWP.opsPan 1 _ rfl (by kernel_rfl) ?_
   simp only [go_sem, fN, seval, eT, iR, Bj, List.take_succ_cons, List.take_zero]
   intro envP
   repeat' (with_reducible first | refine Wy ?_ | refine Wz ?_ | refine Wv ?_)
   refine hpan (by show ¬ (13 : Int) = 0; decide) _ (CG (u := A8 s q.i) (l := 200 - q.k) ?_ fun i hi hne => ?_)
   ·simp only [go_sem, fN, seval, eT, iR, e4, e900, hq1]
   ·have i4 : ¬ i = 4 := by omega
    have i900 : ¬ i = 900 := by omega
    simp only [go_sem, fN, seval, eT, iR, i4, i900, hne]
    exact hrest i hi hne
  have hq1 : ¬ A8 s q.i = ⟨#[]⟩ := fun h => q1 (hnq.1 h)
  have hbt := D5 (s := s) (i := q.i) (k := 0) (by omega)
  rw [Nat.add_zero] at hbt
  by_cases q2 : C3 (A8 s q.i) 0 = 41
  ·have hr := c2 q1 (by rw [← hbt]; exact q2)
   repeat' with_reducible first | refine W ?_ | refine Z0 ?_ | ((first | refine Wx rfl fun K hK => ?_ | refine Wp ?_ | refine Wq ?_ | refine Wr ?_); (try simp only [go_sem, fN, seval, eT, iR, v0, v2, v4, v5, t2, t4, t900, tb, hdr, e4, d4, e2, d2, e900, d900, hal, hq1, q2, dT, dF, nL]); (repeat refine Ai ?_); (try (refine hK _ ?_; clear hK K)); try refine iC ?_)
   refine AI ⟨s.size - q.i, by omega, acc ++ [q.t], q.i, q.k, false, .inr ⟨rfl, hr, by omega⟩, rfl, o2, by simp; omega, ?_⟩
   simp only [go_sem, fN, seval, eT, iR, v0, v2, v4, v5, t2, t4, t900, tb, e4, d4, e2, d2, e900, d900, hal]
   refine ⟨by rw [I5], fun i hi hne => ?_⟩
   have i4 : ¬ i = 4 := by omega
   have i900 : ¬ i = 900 := by omega
   simp only [go_sem, fN, seval, eT, iR, i4, i900, hne]
   exact hrest i hi hne
  by_cases q3 : C3 (A8 s q.i) 0 = 44
  ·have hr := c3 q1 (by rw [← hbt]; exact q2) (by rw [← hbt]; exact q3)
   repeat' with_reducible first | refine W ?_ | refine Z0 ?_ | ((first | refine Wx rfl fun K hK => ?_ | refine Wp ?_ | refine Wq ?_ | refine Wr ?_); (try simp only [go_sem, fN, seval, eT, iR, v0, v2, v4, v5, t2, t4, t900, tb, hdr, e4, d4, e2, d2, e900, d900, hal, hq1, q2, q3, dT, dF, nL]); (repeat refine Ai ?_); (try (refine hK _ ?_; clear hK K)); try refine iC ?_)
   refine AI ⟨s.size - q.i, by omega, acc ++ [q.t], q.i, q.k, true, .inl ⟨rfl, g, hr, by omega, by omega, by omega⟩, rfl, o2, by simp; omega, ?_⟩
   simp only [go_sem, fN, seval, eT, iR, v0, v2, v4, v5, t2, t4, t900, tb, e4, d4, e2, d2, e900, d900, hal]
   refine ⟨by rw [I5], fun i hi hne => ?_⟩
   have i4 : ¬ i = 4 := by omega
   have i900 : ¬ i = 900 := by omega
   simp only [go_sem, fN, seval, eT, iR, i4, i900, hne]
   exact hrest i hi hne
  ·rw [c4 q1 (by rw [← hbt]; exact q2) (by rw [← hbt]; exact q3)] at hpan
   repeat' with_reducible first | refine W ?_ | refine Z0 ?_ | ((first | refine Wx rfl fun K hK => ?_ | refine Wp ?_ | refine Wq ?_ | refine Wr ?_); (try simp only [go_sem, fN, seval, eT, iR, v0, v2, v4, v5, t2, t4, t900, tb, hdr, e4, d4, e2, d2, e900, d900, hal, hq1, q2, q3, dT, dF, nL]); (repeat refine Ai ?_); (try (refine hK _ ?_; clear hK K)); try refine iC ?_)
   refine IWP.opsPan 1 _ rfl (by kernel_rfl) ?_
   simp only [go_sem, fN, seval, eT, iR, Bj, List.take_succ_cons, List.take_zero]
   intro envP
   repeat' (with_reducible first | refine Wy ?_ | refine Wz ?_ | refine Wv ?_)
   refine hpan (by show ¬ (12 : Int) = 0; decide) _ (CG (u := A8 s q.i) (l := 200 - q.k) ?_ fun i hi hne => ?_)
   ·simp only [go_sem, fN, seval, eT, iR, e4, e900]
   ·have i4 : ¬ i = 4 := by omega
    have i900 : ¬ i = 900 := by omega
    simp only [go_sem, fN, seval, eT, iR, i4, i900, hne]
    exact hrest i hi hne
 ·have hdr := tail_drop (s := s) (i := j) (n := 1) (by omega)
  subst hr
  repeat' with_reducible first | refine W ?_ | refine Z0 ?_ | ((first | refine Wx rfl fun K hK => ?_ | refine Wp ?_ | refine Wq ?_ | refine Wr ?_); (try simp only [go_sem, fN, seval, eT, iR, v0, v2, v4, v5, t2, t4, t900, tb, hdr, e4, d4, e2, d2, e900, d900, dT, dF, nL]); (repeat refine Ai ?_); (try (refine hK _ ?_; clear hK K)); try refine iC ?_)
  refine hok rfl _ ⟨.agg [.st (.str nm), .row 900 acc.length], ?_, ?_, ?_, fun i hi hne => ?_⟩
  ·simp only [go_sem, fN, seval, eT, iR, AB, AF, AP, v0, v2, v4, t2, t4, t900, tb, e4, d4, e2, d2, e900, d900]
  ·simp only [go_sem, fN, seval, eT, iR, t900, e900, d900, hal]
   rfl
  ·simp only [go_sem, fN, seval, eT, iR, tb, e4, e2, e900, hdr]
  ·have i2 : ¬ i = 2 := by omega
   simp only [go_sem, fN, seval, eT, iR, i2, hne]
   exact hrest i hi hne

def IG (S : AA) (ι : Ao) (σ : Sto) (w : World) (S' : AA) (w' : World) : Prop := ∃ σ' ι', Aq S' ∧ Upd S ι S' ι' ∧ CV σ' S' ι' w' ∧ Fit σ' w' ∧ (∀ p x, σ p = some x → σ' p = some x) ∧
 (∀ p : Addr, p.block < w.heap.size → BR S ι p.block → σ' p = σ p) ∧ (w'.os = w.os ∧ w'.tape = w.tape ∧ w'.output = w.output) ∧ w.heap.size ≤ w'.heap.size ∧
 (∀ g, g < w.heap.size → BR S ι g → w'.heap[g]? = w.heap[g]?) ∧ (∀ id b g, S' id = some b → (ι' id).g = some g → w.heap.size ≤ g ∨ ¬ BR S ι g)
theorem IG.refl {S : AA} {ι : Ao} {σ : Sto} {w : World} (h1 : Aq S) (h2 : CV σ S ι w) (h3 : Fit σ w) : IG S ι σ w S w :=
 ⟨σ, ι, h1, Upd.refl _ _, h2, h3, fun _ _ h => h, fun _ _ _ => rfl, ⟨rfl, rfl, rfl⟩, Nat.le_refl _, fun _ _ _ => rfl, fun id b g hb hg => .inr fun hn => hn id b hb hg⟩
def O9 (P : Program) (f : FuncId) (xs : List AV) (S : AA) (u u' : FrameMode) (S' : AA) : Prop :=
 Aq S → ∀ (σ : Sto) (w : World) (vs : List Value) (ι : Ao), Bl σ → Fit σ w → CV σ S ι w → AT (AH σ S ι) vs xs →
  CallsD P f vs.toArray u w fun e u1 w' => (∃ v, e = .returned v) ∧ u1 = u' ∧ IG S ι σ w S' w'
section
variable {P : Program} {C : Ctx} {a : Act} {w : World} {σ : Sto} {ι : Ao} {s : AS}
theorem GG (R : AJ C σ ι s a w) : CV σ (upS s.S) (fun i => ι (dn1 i)) w := by
 have hup : ∀ i, dn1 (up1 i) = i := Gx
 have hS : ∀ i b, s.S i = some b → upS s.S (up1 i) = some (b.ren up1) := fun i b hb => Ep hb
 have hι : ∀ i b, s.S i = some b → (fun i => ι (dn1 i)) (up1 i) = ι i := fun i b _ => by show ι (dn1 (up1 i)) = _; rw [hup]
 refine ⟨fun id b hb => ?_, fun id id' b b' g h1 h2 g1 g2 => ?_⟩
 ·obtain ⟨hle, b', h1, rfl⟩ := B0 hb
  exact BX.ren (S2 := upS s.S) (ι2 := fun i => ι (dn1 i)) (ρ := up1) hS hι (R.blk _ _ h1)
 ·obtain ⟨l1, c1, k1, _⟩ := B0 h1
  obtain ⟨l2, c2, k2, _⟩ := B0 h2
  have := R.inj _ _ _ _ g k1 k2 g1 g2
  rw [← Fq l1, ← Fq l2, this]
theorem L5 (R : AJ C σ ι s a w) {v : Value} {av : AV} (h : AH σ s.S ι v av) : AH σ (upS s.S) (fun i => ι (dn1 i)) v (av.ren up1) :=
 AH.ren (S2 := upS s.S) (ι2 := fun i => ι (dn1 i)) (ρ := up1) (fun i b hb => Ep hb) (fun i b _ => by show ι (dn1 (up1 i)) = _; rw [Gx]) h
theorem LZ {S' : AA} {w' : World} (R : AJ C σ ι s a w) (h : IG (upS s.S) (fun i => ι (dn1 i)) σ w S' w') : Ap C ⟨s.env, dnS S'⟩ a w' := by
 obtain ⟨σ', ι', hclean, hupd, hown', hf', hkeep, hold, hos, hsz, hsame, hbase⟩ := h
 have hup : ∀ i, dn1 (up1 i) = i := Gx
 have hS : ∀ i b, s.S i = some b → upS s.S (up1 i) = some (b.ren up1) := fun i b hb => Ep hb
 have hSd : ∀ i b, S' i = some b → dnS S' (dn1 i) = some (b.ren dn1) := fun i b hb => Hj (hclean i b hb).1 hb
 obtain ⟨ι2, hι2⟩ : ∃ ι2 : Ao, ∀ i, ι2 i = ι' (up1 i) := ⟨fun i => ι' (up1 i), fun _ => rfl⟩
 have hιd : ∀ i b, S' i = some b → ι2 (dn1 i) = ι' i := fun i b hb => by
  rw [hι2, Fq (hclean i b hb).1]
 have hu : Upd s.S ι (dnS S') ι2 := fun id b hb => by
  obtain ⟨b', h1, h2, h3⟩ := hupd _ _ (hS id b hb)
  have h4 := hSd _ _ h1
  rw [hup] at h4
  refine ⟨_, h4, by rw [BD] at h2 ⊢; exact h2, fun hl => ?_⟩
  rw [BD] at hl
  obtain ⟨q1, q2⟩ := h3 (by rw [BD]; exact hl)
  refine ⟨by rw [GD] at q1 ⊢; exact q1, ?_⟩
  rw [hι2, q2]
  show ι (dn1 (up1 id)) = _
  rw [hup]
 have hnot : ∀ g, g < C.N → ¬ C.G g → BR (upS s.S) (fun i => ι (dn1 i)) g := fun g h1 h2 id b hb hg => by
  obtain ⟨_, b', k1, _⟩ := B0 hb
  rcases R.base _ _ g k1 hg with h | h
  ·omega
  ·exact h2 h
 refine ⟨σ', ι2, R.size, fun i hi => (R.env i hi).mono hkeep hu, R.nod.mono (fun D h => (hsame D (Array.getElem?_eq_some_iff.1 h).1 (DD (GG R).1 h)).trans h), hf', fun id b hb => ?_, fun id id' b b' g h1 h2 g1 g2 => ?_, fun id b g hb hg => ?_, fun p x hx => hkeep _ _ (R.ext p x hx), fun p h1 h2 => ?_, ⟨hos.1.trans R.os.1, hos.2.1.trans R.os.2.1, hos.2.2.trans R.os.2.2⟩, ⟨Nat.le_trans R.grown.1 hsz, Nat.le_trans R.grown.2 hsz⟩, fun g h1 h2 => ?_, R.upd.trans hu⟩
 ·obtain ⟨b', h1, rfl⟩ := CD hb
  have := BX.ren (S2 := dnS S') (ι2 := ι2) (ρ := dn1) hSd hιd (hown'.1 _ _ h1)
  rw [hι2]
  exact this
 ·obtain ⟨c1, k1, _⟩ := CD h1
  obtain ⟨c2, k2, _⟩ := CD h2
  rw [hι2] at g1 g2
  have := congrArg dn1 (hown'.2 _ _ _ _ g k1 k2 g1 g2)
  rw [hup, hup] at this
  exact this
 ·obtain ⟨b', h1, _⟩ := CD hb
  rw [hι2] at hg
  rcases hbase _ _ g h1 hg with h2 | h2
  ·exact .inl (by have := R.grown.1; omega)
  ·by_cases hN : g < C.N
   ·by_cases hG : C.G g
    ·exact .inr hG
    ·exact absurd (hnot g hN hG) h2
   ·exact .inl (by omega)
 ·exact (hold p (by have := R.grown.1; omega) (hnot _ h1 h2)).trans (R.old p h1 h2)
 ·exact (hsame g (by have := R.grown.1; omega) (hnot g h1 h2)).trans (R.same g h1 h2)
theorem Fm {fn : Func} {g : FuncId} {vs : List Value} {avs : List AV} {u u' : FrameMode} {S' : AA} {K : Ending → World → Prop} (R : AJ C σ ι s a w) (hpl : Bo P g = true) (hvs : AT (AH σ s.S ι) vs avs) (hu : u ≠ .run)
  (hd : O9 P g (AV.rens up1 avs) (upS s.S) u u' S') (hset : settle u' = .returning) (hfin : ∀ w', Ap C ⟨s.env, dnS S'⟩ a w' → ∃ v, (results fn a.tmps).run P w' = .ok v w' ∧ K (.returned v) w') :
  Leaves P fn a.tmps K [{ target := .fn (.func g) vs.toArray, args := #[] }] u w := by
 refine leaves_cons (f := g) (args := vs.toArray) hu ?_ ?_
 ·have := Cc (P := P) (w := w) (args := vs.toArray) hpl
  simpa [invoke] using this
 ·have hargs : AT (AH σ (upS s.S) (fun i => ι (dn1 i))) vs (AV.rens up1 avs) := by
   rw [AV.rens_eq]
   exact (hvs.mono fun _ _ x => L5 R x).map_right
  refine (hd (FF _) σ w vs _ (C.glob.mono R.ext) R.fit (GG R) hargs).mono fun e u1 w' he => ?_
  obtain ⟨⟨v, rfl⟩, rfl, hb⟩ := he
  dsimp only
  rw [hset]
  exact hfin w' (LZ R hb)
end
theorem HT {P : Program} {w : World} {x t : TypeId} {k : IntKind} {z : Value} (hd : P.underlying t = some (.int k)) (hz : (P.info? t).bind (·.zero) = some z) : (Instr.typeAssert .nilIface x t true).run P w = .ok (.tuple #[z, .bool false]) w := by
 rw [Option.bind_eq_some_iff] at hz
 obtain ⟨i, hi, hz⟩ := hz
 unfold Instr.typeAssert
 simp [run_underlying hd, zeroValue, run_typeInfo w hi, hz]
theorem HH {P : Program} {w : World} {x t : TypeId} {k : IntKind} {v : Value} (hd : P.underlying t = some (.int k)) : (Instr.typeAssert (.iface t v) x t true).run P w = .ok (.tuple #[v, .bool true]) w := by
 unfold Instr.typeAssert
 simp [run_underlying hd]
theorem Iy {C : Ctx} {S : AA} {ι : Ao} {σ : Sto} {w w' : World} {s : AS} {a : Act} (hC : C.N = w.heap.size ∧ (C.G = fun g => ¬ BR S ι g) ∧ C.σ0 = σ ∧ C.w0 = w ∧ C.S0 = S ∧ C.ι0 = ι) (hS : Aq s.S) (h : Ap C s a w') : IG S ι σ w s.S w' := by
 obtain ⟨h1, h2, h3, h4, h5, h6⟩ := hC
 obtain ⟨σ', ι', R⟩ := h
 have ho := R.old
 have hu := R.upd
 have he := R.ext
 have hs := R.same
 have hb := R.base
 have hg := R.grown
 have hos := R.os
 rw [h1, h2] at ho hs hb
 rw [h3] at ho he
 rw [h4] at hs hg hos
 rw [h5, h6] at hu
 exact ⟨σ', ι', hS, hu, ⟨R.blk, R.inj⟩, R.fit, he, fun p q1 q2 => ho p q1 (fun h => h q2), hos, hg.2, fun g q1 q2 => hs g q1 (fun h => h q2), fun id b g q1 q2 => hb id b g q1 q2⟩
def RO (P : Program) (g : FuncId) (avs : List AV) (rs : List RV) (r : AV) : AX → AS → Prop
 | .normal, s | .ret, s => ∃ S', O9 P g (AV.rens up1 avs) (upS s.S) .returning .returning S' ∧ (⟨s.env, dnS S'⟩ : AS).result rs = some r
 | .pan v, s => ∃ u' S', O9 P g (AV.rens up1 avs) (upS s.S) (.panicking [{ v := v, recovered := false }]) u' S' ∧ settle u' = .returning ∧ (⟨s.env, dnS S'⟩ : AS).result rs = some r
 | _, _ => False
def AS.up (s : AS) : AS := ⟨fun i => (s.env i).ren up1, upS s.S⟩
section
variable {P : Program}
theorem DO {n : Nat} {mu : List Nat} {c : Code} {x y : IR} (h : Az P n mu c = some (.seq x y)) : ∃ c1 c2, c = .seq c1 c2 ∧ Az P n mu c1 = some x ∧ Az P n mu c2 = some y := by
 cases c <;> simp only [Az] at h
 case seq c1 c2 =>
  split at h
  ·rename_i x' y' e1 e2
   cases h
   exact ⟨c1, c2, rfl, e1, e2⟩
  ·cases h
 all_goals (exfalso; revert h; (repeat' split) <;> simp)
def RX : Code → Code
 | .seq _ (.seq _ (.seq d _)) => d
 | c => c
theorem KF {f : FuncId} {fn : Func} {mu : List Nat} {c : Code} {xA xB xD xE : IR} {rs : List RV} {xs : List AV} {r : AV} {g t id : Nat} {caps : Array Operand} {xs' : List Opd} {oM oF : Oper} {ts : Array TypeId}
  (hf : P.funcs[f]? = some fn) (hb : fn.body = some c) (hx : Az P fn.ntmps mu c = some (.seq xA (.seq xB (.seq xD xE)))) (hr : DW P fn.ntmps fn.results.toList = some rs) (hn : xs.length ≤ fn.ntmps)
  (hD : RX c = .region id #[oM, oF] false) (hM1 : oM.op = .makeFunc (.func g) #[] caps) (hM2 : oM.dst = some t) (hM3 : oM.guard = none) (hF1 : oF.op = .defer { callee := .value (.tmp t), args := #[], argTypes := ts }) (hF2 : oF.dst = none) (hF3 : oF.guard = none) (ht : t < fn.ntmps)
  (hcaps : BM fn.ntmps caps.toList = some xs') (hpl : Bo P g = true)
  (h : ∀ C : Ctx, C.n = fn.ntmps → IWP P C mu xA (AX.then (fun s => IWP P C mu xB (AX.then (fun s => ∃ cs, s.caps xs' = some cs ∧ ∀ C' : Ctx, C'.n = fn.ntmps → IWP P C' mu xE (RO P g (cs.map fun c => (AV.one c).ren up1) rs r) (s.put (some t) (.one (.fn g cs))).up) (AZ rs r)) s) (AZ rs r)) (AS.start xs)) : AW P f xs r := by
 intro σ w vs hglob hfit hvs
 have hl := hvs.len
 let C : Ctx := ⟨fn.ntmps, w.heap.size, fun _ => False, σ, w, noS, noH, fun i b h => by simp [noS] at h, hglob, [], none, true⟩
 obtain ⟨A, c2, rfl, hA, h2⟩ := DO hx
 obtain ⟨B, c3, rfl, hB, h3⟩ := DO h2
 obtain ⟨D, E, rfl, hD', hE⟩ := DO h3
 have hD : D = .region id #[oM, oF] false := hD
 subst hD
 refine calls_of_wp_defers hf hb ?_
 have R0 : AJ C σ noH (AS.start xs) { tmps := vs.toArray ++ Array.replicate (fn.ntmps - vs.toArray.size) undef, defers := [] } w := by
  refine ⟨by simp [C]; omega, fun i hi => ?_, Dv, hfit, fun id b h => by simp [AS.start, noS] at h, fun id id' b b' g h => by simp [AS.start, noS] at h, fun id b g h => by simp [AS.start, noS] at h, fun _ _ h => h, fun _ _ _ => rfl, ⟨rfl, rfl, rfl⟩, ⟨Nat.le_refl _, Nat.le_refl _⟩, fun _ _ _ => rfl, Upd.refl _ _⟩
  show AH σ noS noH _ ((xs[i]?).getD (.tup []))
  rw [Array.getD_eq_getD_getElem?]
  by_cases hlt : i < vs.length
  ·rw [Array.getElem?_append_left (by simpa using hlt)]
   obtain ⟨b, hb1, hb2⟩ := hvs.get' (List.getElem?_eq_getElem hlt)
   rw [hb1]
   simpa [hlt] using hb2
  ·rw [Array.getElem?_append_right (by simp; omega), List.getElem?_eq_none (by omega)]
   have hi' : i < fn.ntmps := hi
   rw [Array.getElem?_replicate, if_pos (by simp; omega)]
   exact .tup (fun _ => undef) rfl (by simp) (by simp)
 have early : ∀ (s : AS) (a' : Act) (w' : World), s.result rs = some r → Ap C s a' w' → Leaves P fn a'.tmps (fun e w' => ∃ v σ', e = .returned v ∧ AH σ' noS noH v r ∧ Fit σ' w' ∧ Ext w.heap.size σ σ' ∧ Below w.heap.size w w') a'.defers .returning w' := by
  intro s a' w' hs hH
  obtain ⟨σ', ι', R'⟩ := hH
  obtain ⟨v, v1, v2⟩ := Jp R' (fn := fn) hr hs
  have hnod : a'.defers = [] := R'.nod.none rfl
  rw [hnod]
  exact ⟨v, v1, v, σ', rfl, v2, R'.fit, ⟨R'.ext, fun p hp => R'.old p hp (fun h => h)⟩, ⟨R'.os.1, R'.os.2.1, R'.os.2.2, R'.grown.2, fun k hk => R'.same k hk (fun h => h)⟩⟩
 refine wp_seq (wp_mono (wpIn_wide.1 (h C rfl A hA _ w ⟨σ, noH, R0⟩)) fun e a' w' he => ?_)
 cases e with
 | normal =>
  obtain ⟨s, hs, hH⟩ := he
  refine wp_seq (wp_mono (wpIn_wide.1 (hs B hB a' w' hH)) fun e a' w' he => ?_)
  cases e with
  | normal =>
   obtain ⟨s, ⟨cs, hcs, hwalk⟩, ⟨σ1, ι1, R⟩⟩ := he
   refine wp_seq ?_
   have rc := Ft R hcaps hcs
   have ecap : (caps.toList.map a'.eval).toArray = caps.map a'.eval := by rw [← Array.toList_map, Array.toArray_toList]
   have hv : AH σ1 s.S ι1 (.func (.func g) #[] (caps.map a'.eval)) (.one (.fn g cs)) := by
    rw [← ecap]
    refine .one (.fn (fun j => ((caps.toList.map a'.eval)[j]?).getD undef) (by simpa using rc.len) (fun j b hb => ?_) (fun j b hb => ?_))
    ·obtain ⟨v, v1, v2⟩ := rc.get hb
     rw [v1]
     simpa using v1
    ·obtain ⟨v, v1, v2⟩ := rc.get hb
     rw [v1]
     exact v2
   have rf : (execOp a'.eval oM).run P w' = .ok (.value (.func (.func g) #[] (caps.map a'.eval))) w' := by
    simp [execOp, hM1, Instr.makeFunc]
   have R1 := R.put (d := some t) hv
   have hta : t < a'.tmps.size := Nat.lt_of_lt_of_le ht R.size
   have hev : (a'.put (some t) (.func (.func g) #[] (caps.map a'.eval))).eval (.tmp t) = .func (.func g) #[] (caps.map a'.eval) := by
    simp [Act.eval, Act.put, hta]
   have rF : (execOp (a'.put (some t) (.func (.func g) #[] (caps.map a'.eval))).eval oF).run P w' = .ok (.defer { target := .fn (.func g) (caps.map a'.eval), args := #[] }) w' := by
    simp [execOp, hF1, resolve, hev, Deferred.ofValue]
   refine wp_region ?_
   show wpOps P #[oM, oF] _ [0, 1] a' w'
   rw [wpOps_cons]
   show (if Region.wanted oM _ then _ else _)
   rw [if_pos (by simp [Region.wanted, hM3])]
   refine .inl ?_
   show Oper.wp P oM a' w' _ _
   unfold Oper.wp
   rw [rf, Oper.upon_value, hM2, wpOps_cons]
   show (if Region.wanted oF _ then _ else _)
   rw [if_pos (by simp [Region.wanted, hF3])]
   refine .inl ?_
   show Oper.wp P oF _ w' _ _
   unfold Oper.wp
   rw [rF, Oper.upon_defer, hF2]
   let C' : Ctx := ⟨fn.ntmps, w.heap.size, fun _ => False, σ1, w', upS s.S, fun i => ι1 (dn1 i), FF _, hglob.mono R.ext, [{ target := .fn (.func g) (caps.toList.map a'.eval).toArray, args := #[] }], none, true⟩
   have hnod0 : a'.defers = [] := R.nod.none rfl
   have RC : AJ C' σ1 (fun i => ι1 (dn1 i)) (s.put (some t) (.one (.fn g cs))).up { a'.put (some t) (.func (.func g) #[] (caps.map a'.eval)) with defers := { target := .fn (.func g) (caps.map a'.eval), args := #[] } :: (a'.put (some t) (.func (.func g) #[] (caps.map a'.eval))).defers } w' := by
    refine ⟨R1.size, fun i hi => L5 R1 (R1.env i hi), ?_, R1.fit, (GG R1).1, (GG R1).2, fun id b g hb hg => ?_, fun _ _ h => h, fun _ _ _ => rfl, ⟨rfl, rfl, rfl⟩, ⟨R.grown.1, Nat.le_refl _⟩, fun _ _ _ => rfl, Upd.refl _ _⟩
    ·have e0 : ({ target := .fn (.func g) (caps.map a'.eval), args := #[] } : Deferred) :: a'.defers = C'.ds := by rw [hnod0, ← ecap]
     have m0 : GE C' C'.ds w' := Dv
     rw [← e0] at m0
     exact m0
    ·obtain ⟨_, b', k1, _⟩ := B0 hb
     exact R1.base _ _ g k1 hg
   have hvs1 : AT (AH σ1 (upS s.S) (fun i => ι1 (dn1 i))) (caps.toList.map a'.eval) (cs.map fun c => (AV.one c).ren up1) := (rc.mono fun _ _ x => L5 R (.one x)).map_right
   have fin : ∀ (s4 : AS) (a4 : Act) (w4 : World), s4.result rs = some r → Ap C' s4 a4 w4 → ∃ v, (results fn a4.tmps).run P w4 = .ok v w4 ∧ ∃ v1 σ', Ending.returned v = .returned v1 ∧ AH σ' noS noH v1 r ∧ Fit σ' w4 ∧ Ext w.heap.size σ σ' ∧ Below w.heap.size w w4 := fun s4 a4 w4 hs4 hH4 => by
    obtain ⟨σ4, ι4, R4⟩ := hH4
    obtain ⟨v, v1, v2⟩ := Jp R4 (fn := fn) hr hs4
    exact ⟨v, v1, v, σ4, rfl, v2, R4.fit, ⟨fun p x hp => R4.ext p x (R.ext p x hp), fun p hp => (R4.old p hp (fun h => h)).trans (R.old p hp (fun h => h))⟩, ⟨R4.os.1.trans R.os.1, R4.os.2.1.trans R.os.2.1, R4.os.2.2.trans R.os.2.2, Nat.le_trans R.grown.2 R4.grown.2, fun k hk => (R4.same k hk (fun h => h)).trans (R.same k hk (fun h => h))⟩⟩
   refine wp_mono (wpIn_wide.1 (hwalk C' rfl E hE _ w' ⟨σ1, _, RC⟩)) fun e a3 w3 he => ?_
   cases e with
   | normal =>
    obtain ⟨s3, ⟨S', hdef, hres⟩, ⟨σ3, ι3, R3⟩⟩ := he
    show Leaves P fn a3.tmps _ a3.defers .returning w3
    rw [R3.nod.none rfl]
    exact Fm R3 hpl (hvs1.mono fun _ _ x => x.mono R3.ext R3.upd) (by simp) hdef rfl fun w4 hH4 => fin _ _ _ hres hH4
   | ret =>
    obtain ⟨s3, ⟨S', hdef, hres⟩, ⟨σ3, ι3, R3⟩⟩ := he
    show Leaves P fn a3.tmps _ a3.defers .returning w3
    rw [R3.nod.none rfl]
    exact Fm R3 hpl (hvs1.mono fun _ _ x => x.mono R3.ext R3.upd) (by simp) hdef rfl fun w4 hH4 => fin _ _ _ hres hH4
   | exit id =>
    obtain ⟨s3, h3, _⟩ := he
    exact h3.elim
   | panic ch =>
    obtain ⟨s3, v, ⟨⟨u', S', hdef, hset, hres⟩, rfl⟩, ⟨σ3, ι3, R3⟩⟩ := he
    show Leaves P fn a3.tmps _ a3.defers (.panicking _) w3
    rw [R3.nod.none rfl]
    exact Fm R3 hpl (hvs1.mono fun _ _ x => x.mono R3.ext R3.upd) (by simp) hdef hset fun w4 hH4 => fin _ _ _ hres hH4
   | goto l => exact he.elim
   | outgrown => exact he.elim
  | ret =>
   obtain ⟨s, h1, h2⟩ := he
   exact early s _ _ (show AZ rs r .ret s from h1).2 h2
  | exit id =>
   obtain ⟨s, h1, h2⟩ := he
   exact (show AZ rs r (.exit id) s from h1).1.elim
  | panic ch =>
   obtain ⟨s, v, h1, h2⟩ := he
   exact (show AZ rs r (.pan v) s from h1.1).1.elim
  | goto l => exact he.elim
  | outgrown => exact he.elim
 | ret =>
  obtain ⟨s, h1, h2⟩ := he
  exact early s _ _ (show AZ rs r .ret s from h1).2 h2
 | exit id =>
  obtain ⟨s, h1, h2⟩ := he
  exact (show AZ rs r (.exit id) s from h1).1.elim
 | panic ch =>
  obtain ⟨s, v, h1, h2⟩ := he
  exact (show AZ rs r (.pan v) s from h1.1).1.elim
 | goto l => exact he.elim
 | outgrown => exact he.elim
end

def OL (b c : Nat) (n : Int) (ok : Bool) : Nat → AV
 | 0 => .one (.ptr b 1 0 0)
 | 1 => .one (.ptr c 1 0 0)
 | 2 => Ab n
 | 3 => Aj ok
 | _ => .any
theorem Oq {b c : Nat} {n : Int} {ok : Bool} {S : AA} {σ : Sto} {ι : Ao} {w : World} {v1 v2 : Value} {a : Act} (hclean : Aq S) (hglob : Bl σ) (hfit : Fit σ w) (hown : CV σ S ι w) (h1 : AH σ S ι v1 (.one (.ptr b 1 0 0))) (h2 : AH σ S ι v2 (.one (.ptr c 1 0 0))) (hn : inR .i64 n)
  (hs : 12 ≤ a.tmps.size) (g0 : a.tmps.getD 0 undef = v1) (g1 : a.tmps.getD 1 undef = v2) (g2 : a.tmps.getD 2 undef = .int .i64 n) (g3 : a.tmps.getD 3 undef = .bool ok) (hd : a.defers = []) :
  Ap ⟨12, w.heap.size, fun g => ¬ BR S ι g, σ, w, S, ι, hclean, hglob, [], none, true⟩ ⟨OL b c n ok, S⟩ a w := by
 refine ⟨σ, ι, hs, fun i hi => ?_, ⟨[], by rw [hd]; rfl, List.nodup_nil, fun D h => (by simp at h), fun _ => rfl⟩, hfit, hown.1, hown.2, fun id b g h hg => .inr (fun hno => hno id b h hg), fun _ _ h => h, fun _ _ _ => rfl, ⟨rfl, rfl, rfl⟩, ⟨Nat.le_refl _, Nat.le_refl _⟩, fun _ _ _ => rfl, Upd.refl _ _⟩
 match i with
 | 0 => rw [g0]; exact h1
 | 1 => rw [g1]; exact h2
 | 2 => rw [g2]; exact .one (.st (.int hn))
 | 3 => rw [g3]; exact .one (.st .bool)
 | _ + 4 => exact .any
set_option maxRecDepth 100000 in
theorem K3 (b c : Nat) (S : AA) : O9 Try.prog 25 [.one (.ptr b 1 0 0), .one (.ptr c 1 0 0)] S .returning .returning S := by
 intro hclean σ w vs ι hglob hfit hown hvs
 obtain ⟨v1, v2, rfl, r1, r2⟩ : ∃ v1 v2, vs = [v1, v2] ∧ AH σ S ι v1 (.one (.ptr b 1 0 0)) ∧ AH σ S ι v2 (.one (.ptr c 1 0 0)) := by
  cases hvs with
  | cons h1 hvs => cases hvs with
   | cons h2 hvs => cases hvs with
    | nil => exact ⟨_, _, rfl, h1, h2⟩
 have hta : ∀ w, (Instr.typeAssert .nilIface 20 62 true).run Try.prog w = .ok (.tuple #[.int .i64 0, .bool false]) w := fun w => HT (P := Try.prog) (t := 62) Try.underlying62 (by kernel_rfl)
 obtain ⟨c1, c2, hc, h1, h2⟩ := DO EN
 have hb : Try.f25.body = some (.seq c1 c2) := congrArg some hc
 injection hc with e1 e2
 subst e1
 clear e2 h1
 refine callsD_of_wpS Try.func25 hb fun c₀ cs hu => ?_
 apply wpS_seq
 apply wpS_region
 simp [wpOpsS, go_sem, recoverD, hu, hta, Try.ntmps25, Exit.thenS]
 have hH := Oq (b := b) (c := c) (n := 0) (ok := false) (a := { tmps := #[v1, v2] ++ (((((((Array.replicate 10 undef).setIfInBounds 3 Value.nilIface).setIfInBounds 4 (Value.tuple #[Value.int IntKind.i64 0, Value.bool false])).setIfInBounds 2 (Value.tuple #[Value.int IntKind.i64 0, Value.bool false])).setIfInBounds 5 (Value.int IntKind.i64 0)).setIfInBounds 6 (Value.bool false)).setIfInBounds 0 (Value.int IntKind.i64 0)).setIfInBounds 1 (Value.bool false), defers := [] }) hclean hglob hfit hown r1 r2 (by rw [Cp]; omega) (by simp) (by simp) (by simp) (by simp) (by simp) rfl
 refine wpS_of_wp (wp_mono (wpIn_wide.1 ((?hw : IWP Try.prog _ [] _ (fun e s => e = .normal ∧ s.S = S) ⟨OL b c 0 false, S⟩) c2 h2 _ w hH)) fun e a' w' he => ?_)
 case' hw => skip
 rotate_left
 ·skip
  cases e with
  | normal =>
   obtain ⟨s, ⟨_, hS⟩, hH'⟩ := he
   have hbe := Iy ⟨rfl, rfl, rfl, rfl, rfl, rfl⟩ (by rw [hS]; exact hclean) hH'
   rw [hS] at hbe
   obtain ⟨σ', ι', R'⟩ := hH'
   refine ⟨R'.nod.none rfl, .returning, by rw [← hu], .tuple #[], by simp [results, Try.results25], ⟨_, rfl⟩, rfl, hbe⟩
  | ret => obtain ⟨s, h, _⟩ := he; cases h.1
  | exit id => obtain ⟨s, h, _⟩ := he; cases h.1
  | panic ch => obtain ⟨s, v, h, _⟩ := he; cases h.1.1
  | goto l => exact he.elim
  | outgrown => exact he.elim
 ·repeat' with_reducible first | refine W ?_ | refine Z0 ?_ | ((first | refine Wo fun K hK => ?_ | refine Wp ?_ | refine Wq ?_ | refine Wr ?_); (try simp only [go_sem, fN, seval, eT, iR, OL, dT, dF, nL]); (repeat refine Ai ?_); (try (refine hK _ ?_; clear hK K)); try refine iC ?_)
  exact ⟨rfl, rfl⟩
def RI (S : AA) (b c : Nat) (n : Int) : AA := AK (AK S b (some (.box 25 [.st (.str ⟨#[]⟩), .full []]))) c (some (.box 30 [.st (.int .i64 n)]))
set_option maxRecDepth 100000 in
theorem MM (n : Int) (hn : inR .i64 n) (b c : Nat) (S : AA) (hb1 : 1000 ≤ b) (hc1 : 1000 ≤ c) (hbc : b ≠ c) {cs1 : List AC} {x1 : AC} (sb : S b = some (.box 25 cs1)) (hl : cs1.length = 2) (sc : S c = some (.box 30 [x1])) :
  O9 Try.prog 25 [.one (.ptr b 1 0 0), .one (.ptr c 1 0 0)] S (.panicking [{ v := Hr n, recovered := false }]) (.panicking [{ v := Hr n, recovered := true }]) (RI S b c n) := by
 intro hclean σ w vs ι hglob hfit hown hvs
 obtain ⟨v1, v2, rfl, r1, r2⟩ : ∃ v1 v2, vs = [v1, v2] ∧ AH σ S ι v1 (.one (.ptr b 1 0 0)) ∧ AH σ S ι v2 (.one (.ptr c 1 0 0)) := by
  cases hvs with
  | cons h1 hvs => cases hvs with
   | cons h2 hvs => cases hvs with
    | nil => exact ⟨_, _, rfl, h1, h2⟩
 have hta : ∀ w, (Instr.typeAssert (.iface 62 (.int .i64 n)) 20 62 true).run Try.prog w = .ok (.tuple #[.int .i64 n, .bool true]) w := fun w => HH (P := Try.prog) (t := 62) Try.underlying62
 obtain ⟨c1, c2, hc, h1, h2⟩ := DO EN
 have hb : Try.f25.body = some (.seq c1 c2) := congrArg some hc
 injection hc with e1 e2
 subst e1
 clear e2 h1
 refine callsD_of_wpS Try.func25 hb fun c₀ cs hu => ?_
 apply wpS_seq
 apply wpS_region
 simp [wpOpsS, go_sem, recoverD, hu, hta, Try.ntmps25, Exit.thenS]
 have hH := Oq (b := b) (c := c) (n := n) (ok := true) (a := { tmps := #[v1, v2] ++ (((((((Array.replicate 10 undef).setIfInBounds 3 (Hr n)).setIfInBounds 4 (Value.tuple #[Value.int IntKind.i64 n, Value.bool true])).setIfInBounds 2 (Value.tuple #[Value.int IntKind.i64 n, Value.bool true])).setIfInBounds 5 (Value.int IntKind.i64 n)).setIfInBounds 6 (Value.bool true)).setIfInBounds 0 (Value.int IntKind.i64 n)).setIfInBounds 1 (Value.bool true), defers := [] }) hclean hglob hfit hown r1 r2 hn (by simp) (by simp) (by simp) (by simp) (by simp) rfl
 refine wpS_of_wp (wp_mono (wpIn_wide.1 ((?hw : IWP Try.prog _ [] _ (fun e s => e = .normal ∧ s.S = RI S b c n) ⟨OL b c n true, S⟩) c2 h2 _ w hH)) fun e a' w' he => ?_)
 case' hw => skip
 rotate_left
 ·cases e with
  | normal =>
   obtain ⟨s, ⟨_, hS⟩, hH'⟩ := he
   have hbe := Iy ⟨rfl, rfl, rfl, rfl, rfl, rfl⟩ (by rw [hS]; exact Ci (Ci hclean hb1 (by simp [AL.high, AC.highs, AC.high])) hc1 (by simp [AL.high, AC.highs, AC.high])) hH'
   rw [hS] at hbe
   obtain ⟨σ', ι', R'⟩ := hH'
   refine ⟨R'.nod.none rfl, _, rfl, .tuple #[], by simp [results, Try.results25], ⟨_, rfl⟩, rfl, hbe⟩
  | ret => obtain ⟨s, h, _⟩ := he; cases h.1
  | exit id => obtain ⟨s, h, _⟩ := he; cases h.1
  | panic ch => obtain ⟨s, v, h, _⟩ := he; cases h.1.1
  | goto l => exact he.elim
  | outgrown => exact he.elim
 ·have hcb : ¬ c = b := fun h => hbc h.symm
  repeat' with_reducible first | refine W ?_ | refine Z0 ?_ | ((first | refine Wo fun K hK => ?_ | refine Wp ?_ | refine Wq ?_ | refine Wr ?_); (try simp only [go_sem, fN, seval, eT, iR, OL, sb, sc, hl, hcb, dT, dF, nL]); (repeat refine Ai ?_); (try (refine hK _ ?_; clear hK K)); try refine iC ?_)
  refine ⟨rfl, ?_⟩
  have hdl : List.drop 2 cs1 = [] := List.drop_eq_nil_of_le (by omega)
  rw [hdl]
  rfl
theorem P5 (n : Int) : settle (.panicking [{ v := Hr n, recovered := true }]) = .returning := by
 rfl
theorem K4 {n : Int} (hn : inR .i64 n) {x : AS} {c1 c2 : AC} {x1 : AC} (e2 : x.env 2 = .one (.ptr 1002 1 0 0)) (e3 : x.env 3 = .one (.ptr 1003 1 0 0)) (t2 : x.S 1002 = some (.box 25 [c1, c2])) (t3 : x.S 1003 = some (.box 30 [x1])) :
  RO Try.prog 25 [.one (.ptr 1002 1 0 0), .one (.ptr 1003 1 0 0)] [RV.cell 2 true 2, RV.cell 3 false 1] (M3 (.mk ⟨#[]⟩ [], n)) (.pan (Hr n)) x := by
 refine ⟨_, _, MM n hn 2002 2003 (upS x.S) (cs1 := [c1.ren up1, c2.ren up1]) (x1 := x1.ren up1) (by decide) (by decide) (by decide) ?_ rfl ?_, P5 n, ?_⟩
 ·rw [show (2002 : Nat) = up1 1002 from rfl, A7, t2]
  rfl
 ·rw [show (2003 : Nat) = up1 1003 from rfl, A7, t3]
  rfl
 ·unfold RI
  rw [show (2002 : Nat) = up1 1002 from rfl, show (2003 : Nat) = up1 1003 from rfl, Jk, Jk, H8]
  unfold AS.result
  simp only [go_sem, fN, seval, eT, iR, AB, AF, AP, e2, e3]
  rfl
set_option maxRecDepth 100000 in
theorem Mo (s : ByteArray) : AW Try.prog 16 [CO s] (M3 (Jh s)) := by
 have hro : Jh s = if 4000 < s.size then (.mk ⟨#[]⟩ [], 3) else if (rdS s).e = 0 then (if (rdS s).i < s.size then (.mk ⟨#[]⟩ [], 12) else ((rdS s).t, 0)) else (.mk ⟨#[]⟩ [], (rdS s).e) := rfl
 refine KF (f := 16) (g := 25) (t := 9) (rs := [.cell 2 true 2, .cell 3 false 1]) Try.func16 rfl IV rfl (Nat.le_of_ble_eq_true rfl) rfl rfl rfl rfl rfl rfl rfl (Nat.le_of_ble_eq_true rfl) rfl (by kernel_rfl) fun C hC => ?_
 have hC : C.n = 22 := hC
 by_cases h0 : (4000 : Int) < s.size
 ·rw [hro, if_pos (by omega)]
  unfold M3
  repeat' with_reducible first | refine W ?_ | refine Z0 ?_ | ((first | refine Wx rfl fun K hK => ?_ | refine Wp ?_ | refine Wq ?_ | refine Wr ?_); (try simp only [go_sem, fN, seval, eT, iR, h0, dT, dF, nL]); (repeat refine Ai ?_); (try (refine hK _ ?_; clear hK K)); try refine iC ?_)
  refine AI ?_
  repeat' with_reducible first | refine W ?_ | refine Z0 ?_ | ((first | refine Wx rfl fun K hK => ?_ | refine Wp ?_ | refine Wq ?_ | refine Wr ?_); (try simp only [go_sem, fN, seval, eT, iR, h0, dT, dF, nL]); (repeat refine Ai ?_); (try (refine hK _ ?_; clear hK K)); try refine iC ?_)
  simp only [go_sem, fN, seval, AZ, AS.result, AB, AF, AP]
  rfl
 have hs : s.size ≤ 100000 := by omega
 rw [hro, if_neg (by omega)]
 repeat' with_reducible first | refine W ?_ | refine Z0 ?_ | ((first | refine Wx rfl fun K hK => ?_ | refine Wp ?_ | refine Wq ?_ | refine Wr ?_); (try simp only [go_sem, fN, seval, eT, iR, h0, dT, dF, nL]); (repeat refine Ai ?_); (try (refine hK _ ?_; clear hK K)); try refine iC ?_)
 refine AI ?_
 repeat' with_reducible first | refine W ?_ | refine Z0 ?_ | ((first | refine Wx rfl fun K hK => ?_ | refine Wp ?_ | refine Wq ?_ | refine Wr ?_); (try simp only [go_sem, fN, seval, eT, iR, h0, dT, dF, nL]); (repeat refine Ai ?_); (try (refine hK _ ?_; clear hK K)); try refine iC ?_)
 refine AI ⟨_, by simp [AS.caps]; rfl, fun C' hC' => ?_⟩
 have hC' : C'.n = 22 := hC'
 generalize hT : AS.up _ = T
 have e0 : T.env 0 = CO s := by subst hT; rfl
 have e2 : T.env 2 = .one (.ptr 1002 1 0 0) := by subst hT; rfl
 have e3 : T.env 3 = .one (.ptr 1003 1 0 0) := by subst hT; rfl
 have t2 : T.S 1002 = some Jx := by subst hT; rfl
 have t3 : T.S 1003 = some (.box 30 [.st (.int .i64 0)]) := by subst hT; rfl
 have t12 : T.S 12 = none := by subst hT; rfl
 obtain ⟨env, S⟩ := T
 simp only at e0 e2 e3 t2 t3 t12
 clear hT
 have hcall := fun S' (h : S' (up1 12) = some (Jt s 200)) => QK s hs (2 * s.size + 1) 0 0 (by omega) (by omega) (by omega) (up1 12) S' (A5 12) (by rw [h, N9]; rfl)
 have hr : rd s (2 * s.size + 1) 0 0 = rdS s := rfl
 rw [hr] at hcall
 have hok := O1 s (2 * s.size + 1) 0 0 (by omega) (by omega) (by omega)
 rw [hr] at hok
 have hrange : inR .i64 (rdS s).e := by
  rw [Cp]
  have := hok.err
  omega
 by_cases h1 : (rdS s).e = 0
 case neg =>
  rw [if_neg h1]
  repeat' (first | (with_reducible first | refine W ?_ | refine Z0 ?_) | (first | refine IWP.opsPanE 1 ⟨some 14, none, .callS 26 [.t 13], .no⟩ rfl (by kernel_rfl) ?_) | (with_reducible ((first | refine Wx rfl fun K hK => ?_ | refine Wp ?_ | refine Wq ?_ | refine Wr ?_); (try simp only [go_sem, fN, seval, eT, iR, e0, e2, e3, t2, t3, t12, dT, dF, nL]); (repeat refine Ai ?_); (try (refine hK _ ?_; clear hK K)); try refine iC ?_)))
  simp only [go_sem, fN, seval, eT, iR, Bj, List.take_succ_cons, List.take_zero, e0, e2, e3, t2, t3, t12]
  refine ⟨_, _, (hcall _ (by rw [A7, AE]; rfl)).2 h1, fun envP hE => ?_⟩
  refine Wy (K4 (c1 := .st (.str ⟨#[]⟩)) (c2 := .full []) (x1 := .st (.int .i64 0)) hrange ((hE 2 rfl).trans (by simp only [go_sem, fN, seval, eT, iR, e2])) ((hE 3 rfl).trans (by simp only [go_sem, fN, seval, eT, iR, e3])) ?_ ?_)
  ·simp only [go_sem, fN, seval, eT, iR, t2]
  ·simp only [go_sem, fN, seval, eT, iR, t3]
 case pos =>
 rw [if_pos h1]
 obtain ⟨o1, o2, o3, o4⟩ := hok.ok h1
 have hiq := hok.in_
 have hnq := Hp hiq
 by_cases h2 : (rdS s).i < s.size
 ·have h2n : ¬ A8 s (rdS s).i = ⟨#[]⟩ := fun h => by have := hnq.1 h; omega
  rw [if_pos h2]
  repeat' with_reducible first | refine W ?_ | refine Z0 ?_ | ((first | refine Wx rfl fun K hK => ?_ | refine Wp ?_ | refine Wq ?_ | refine Wr ?_); (try simp only [go_sem, fN, seval, eT, iR, e0, e2, e3, t2, t3, t12, dT, dF, nL]); (repeat refine Ai ?_); (try (refine hK _ ?_; clear hK K)); try refine iC ?_)
  refine ⟨_, _, (hcall _ (by rw [A7, AE]; rfl)).1 h1, ?_⟩
  repeat' with_reducible first | refine W ?_ | refine Z0 ?_ | ((first | refine Wx rfl fun K hK => ?_ | refine Wp ?_ | refine Wq ?_ | refine Wr ?_); (try simp only [go_sem, fN, seval, eT, iR, e0, e2, e3, t2, t3, t12, h2n, dT, dF, nL]); (repeat refine Ai ?_); (try (refine hK _ ?_; clear hK K)); try refine iC ?_)
  refine IWP.opsPanE 1 _ rfl (by kernel_rfl) ?_
  simp only [go_sem, fN, seval, eT, iR, Bj, List.take_succ_cons, List.take_zero, e0, e2, e3, t2, t3, t12]
  intro envP hE
  refine Wy (K4 (n := 12) (c1 := .st (.str (rdS s).t.name)) (c2 := .st (.list (List.map Ay (rdS s).t.args))) (x1 := .st (.int .i64 0)) (by decide) ((hE 2 rfl).trans (by simp only [go_sem, fN, seval, eT, iR, e2])) ((hE 3 rfl).trans (by simp only [go_sem, fN, seval, eT, iR, e3])) ?_ ?_)
  ·simp only [go_sem, fN, seval, eT, iR, t2]
  ·simp only [go_sem, fN, seval, eT, iR, t3]
 ·have h2n : A8 s (rdS s).i = ⟨#[]⟩ := hnq.2 (by omega)
  rw [if_neg h2]
  repeat' with_reducible first | refine W ?_ | refine Z0 ?_ | ((first | refine Wx rfl fun K hK => ?_ | refine Wp ?_ | refine Wq ?_ | refine Wr ?_); (try simp only [go_sem, fN, seval, eT, iR, e0, e2, e3, t2, t3, t12, dT, dF, nL]); (repeat refine Ai ?_); (try (refine hK _ ?_; clear hK K)); try refine iC ?_)
  refine ⟨_, _, (hcall _ (by rw [A7, AE]; rfl)).1 h1, ?_⟩
  repeat' with_reducible first | refine W ?_ | refine Z0 ?_ | ((first | refine Wx rfl fun K hK => ?_ | refine Wp ?_ | refine Wq ?_ | refine Wr ?_); (try simp only [go_sem, fN, seval, eT, iR, e0, e2, e3, t2, t3, t12, h2n, dT, dF, nL]); (repeat refine Ai ?_); (try (refine hK _ ?_; clear hK K)); try refine iC ?_)
  refine ⟨_, K3 _ _ _, ?_⟩
  rw [H8]
  unfold AS.result
  simp only [go_sem, fN, seval, eT, iR, AB, AF, AP, e2, e3]
  rfl

def CI (u : Tm) (left : Int) : Tm × Int := if (u.size : Int) ≤ left then (u, left - u.size) else (Tm.nil, -1)
abbrev F5 (s : List Bd) (left : Int) : AL := .box 88 [.st (.list (s.map CY)), .st (.int .i64 left)]
theorem C9 {u : Tm} {left : Int} (h : (u.size : Int) ≤ left) : CI u left = (u, left - u.size) := if_pos h
theorem Cv {u : Tm} {left : Int} (h : ¬ (u.size : Int) ≤ left) : CI u left = (Tm.nil, -1) := if_neg h
theorem JN (s : List Bd) (h40 : s.length ≤ 100000) (ho : A4 s) (turn : Bool) (f : Tm → Tm) (t : Tm) (hl : turn = true → lookup s t.name = none)
  (ih : ∀ a ∈ t.args, ∀ (a0 : Nat) (left : Int) (S : AA), 1000 ≤ a0 → 0 ≤ left → left ≤ 1000000 → S a0 = some (F5 s left) →
   An Try.prog 42 [.one (.ptr a0 1 0 0), aTm a, Aj turn] S (aTm (CI (f a) left).1) (AK S a0 (some (F5 s (CI (f a) left).2))))
  (a0 : Nat) (left : Int) (S : AA) (ha0 : 1000 ≤ a0) (h0 : 0 ≤ left) (h1 : left ≤ 1000000) (hSa : S a0 = some (F5 s left)) :
  An Try.prog 42 [.one (.ptr a0 1 0 0), aTm t, Aj turn] S (aTm (CI (.mk t.name (t.args.map f)) left).1) (AK S a0 (some (F5 s (CI (.mk t.name (t.args.map f)) left).2))) := by
 refine Bh.acS fun hS C hC => ?_
 have hu : (Tm.mk t.name (t.args.map f)).size = 1 + Tm.sizes (t.args.map f) := rfl
 have hlen := Tm.length_le (t.args.map f)
 rw [List.length_map] at hlen
 have n4 : S 4 = none := AQ hS (by omega)
 have n6 : S 6 = none := AQ hS (by omega)
 have n7 : S 7 = none := AQ hS (by omega)
 have n9 : S 9 = none := AQ hS (by omega)
 have n11 : S 11 = none := AQ hS (by omega)
 have n900 : S 900 = none := AQ hS (by omega)
 have d4 : ¬ 4 = a0 := by omega
 have d6 : ¬ 6 = a0 := by omega
 have d7 : ¬ 7 = a0 := by omega
 have d9 : ¬ 9 = a0 := by omega
 have d11 : ¬ 11 = a0 := by omega
 have d900 : ¬ 900 = a0 := by omega
 have e4 : ¬ a0 = 4 := by omega
 have e6 : ¬ a0 = 6 := by omega
 have e7 : ¬ a0 = 7 := by omega
 have e9 : ¬ a0 = 9 := by omega
 have e11 : ¬ a0 = 11 := by omega
 have e900 : ¬ a0 = 900 := by omega
 unfold BI
 cases turn
 case' false =>
  repeat' with_reducible first | refine W ?_ | refine Z0 ?_ | ((first | refine Wo fun K hK => ?_ | refine Wq ?_ | refine Wr ?_); (try simp only [go_sem, fN, seval, eT, iR, hSa, n4, n6, n7, d4, d6, d7, e4, e6, e7]); (repeat refine Ai ?_); (try (refine hK _ ?_; clear hK K)))
  with_reducible refine Wp ?_
  simp only [go_sem, fN, seval, true_implies, false_implies, implies_true, dT, dF, nL]
  (try with_reducible refine iC ?_)
  repeat' with_reducible first | refine W ?_ | refine Z0 ?_ | ((first | refine Wo fun K hK => ?_ | refine Wq ?_ | refine Wr ?_); (try simp only [go_sem, fN, seval, eT, iR, hSa, n4, n6, n7, n9, d4, d6, d7, d9, e4, e6, e7, e9]); (repeat refine Ai ?_); (try (refine hK _ ?_; clear hK K)))
 case' true =>
  have hln := hl rfl
  repeat' with_reducible first | refine W ?_ | refine Z0 ?_ | ((first | refine Wo fun K hK => ?_ | refine Wq ?_ | refine Wr ?_); (try simp only [go_sem, fN, seval, eT, iR, hSa, n4, n6, n7, d4, d6, d7, e4, e6, e7]); (repeat refine Ai ?_); (try (refine hK _ ?_; clear hK K)))
  with_reducible refine Wp ?_
  simp only [go_sem, fN, seval, true_implies, false_implies, implies_true, dT, dF, nL]
  (try with_reducible refine iC ?_)
  repeat' (first | (with_reducible first | refine W ?_ | refine Z0 ?_ | ((first | refine Wo fun K hK => ?_ | refine Wq ?_ | refine Wr ?_); (try simp only [go_sem, fN, seval, eT, iR, hSa, n4, n6, n7, d4, d6, d7, e4, e6, e7, hln]); (repeat refine Ai ?_); (try (refine hK _ ?_; clear hK K)))) | refine Cg _ (Pp s h40 ho t.name) ?_)
  with_reducible refine Wp ?_
  simp only [go_sem, fN, seval, true_implies, false_implies, implies_true, dT, dF, nL]
  (try with_reducible refine iC ?_)
  repeat' with_reducible first | refine W ?_ | refine Z0 ?_ | ((first | refine Wo fun K hK => ?_ | refine Wq ?_ | refine Wr ?_); (try simp only [go_sem, fN, seval, eT, iR, hSa, n4, n6, n7, n9, d4, d6, d7, d9, e4, e6, e7, e9]); (repeat refine Ai ?_); (try (refine hK _ ?_; clear hK K)))
 all_goals
  by_cases hz : left = 0
  ·subst hz
   have hno : ¬ ((Tm.mk t.name (t.args.map f)).size : Int) ≤ 0 := by rw [hu]; omega
   rw [Cv hno]
   with_reducible refine Wp ?_
   simp only [go_sem, fN, seval, true_implies, false_implies, implies_true, dT, dF, nL]
   (try with_reducible refine iC ?_)
   repeat' with_reducible first | refine W ?_ | refine Z0 ?_ | ((first | refine Wo fun K hK => ?_ | refine Wq ?_ | refine Wr ?_); (try simp only [go_sem, fN, seval, eT, iR, hSa, n4, n6, n7, n9, d4, d6, d7, d9, e4, e6, e7, e9]); (repeat refine Ai ?_); (try (refine hK _ ?_; clear hK K)))
   refine CX (.agg [.st (.str ⟨#[]⟩), .full []]) hS ha0 rfl trivial ?_ ?_ ?_ fun i hi hne => ?_
   ·simp only [go_sem, fN, seval, eT, iR, AB, AF, AP, e4, e6, e7, e9, d4, d6, d7, d9]
   ·simp only [go_sem, fN, seval, eT, iR, Tm.nil]
    rfl
   ·simp only [go_sem, fN, seval, eT, iR, e4, e6, e7, e9]
   ·have i4 : ¬ i = 4 := by omega
    have i6 : ¬ i = 6 := by omega
    have i7 : ¬ i = 7 := by omega
    simp only [go_sem, fN, seval, eT, iR, i4, i6, i7, hne]
  have hz' : ¬ left - 1 < 0 := by omega
  with_reducible refine Wp ?_
  simp only [go_sem, fN, seval, true_implies, false_implies, implies_true, dT, dF, nL, hz']
  (try with_reducible refine iC ?_)
  repeat' with_reducible first | refine W ?_ | refine Z0 ?_ | ((first | refine Wo fun K hK => ?_ | refine Wq ?_ | refine Wr ?_); (try simp only [go_sem, fN, seval, eT, iR, hSa, n4, n6, n7, n9, d4, d6, d7, d9, e4, e6, e7, e9]); (repeat refine Ai ?_); (try (refine hK _ ?_; clear hK K)))
  refine IWP.ghost (Ak.ownC 9 1 900 25 2 (xs := ([] : List Tm).map Ay) (by simp only [go_sem, fN, seval, eT, iR, d9, d4, d6, d7, e9]; rfl) rfl (by simp only [go_sem, fN, seval, eT, iR, n900, d900]) FC) ?_
  refine IWP.loopD [11] (fun m x => ∃ k, k ≤ t.args.length ∧ m = t.args.length - k ∧ (Tm.sizes ((t.args.take k).map f) : Int) ≤ left - 1 ∧ x.env 0 = .one (.ptr a0 1 0 0) ∧ x.env 2 = Aj _ ∧ x.env 6 = .one (.ptr 6 1 0 0) ∧ x.env 9 = .one (.ptr 9 1 0 0) ∧ x.env 44 = .one (.st (.list (t.args.map Ay))) ∧ x.env 45 = Ab t.args.length ∧ x.env 46 = Ab k ∧
    x.S 6 = some (.box 25 [.st (.str ⟨#[]⟩), .full []]) ∧ x.S 9 = some (.box 25 [.st (.str t.name), .row 900 k]) ∧ x.S 900 = some (.arow 25 2 (((t.args.take k).map f).map Ay)) ∧ x.S 11 = none ∧ x.S a0 = some (F5 s (left - 1 - Tm.sizes ((t.args.take k).map f))) ∧ ∀ i, 1000 ≤ i → i ≠ a0 → x.S i = S i)
   t.args.length ⟨0, Nat.zero_le _, rfl, by show (0 : Int) ≤ _; omega, rfl, rfl, rfl, rfl, rfl, rfl, rfl, by simp only [go_sem, fN, seval, eT, iR, d6, d4, d7, d9, e6], by (simp only [go_sem, fN, seval, eT, iR, d9]); rfl, by simp only [go_sem, fN, seval, eT, iR, e9], by simp only [go_sem, fN, seval, eT, iR, n11, d11], by (simp only [go_sem, fN, seval, eT, iR, e9, e900]); simp [Tm.sizes], fun i hi hne => ?_⟩ ?_
  ·have i4 : ¬ i = 4 := by omega
   have i6 : ¬ i = 6 := by omega
   have i7 : ¬ i = 7 := by omega
   have i9 : ¬ i = 9 := by omega
   have i900 : ¬ i = 900 := by omega
   simp only [go_sem, fN, seval, eT, iR, i4, i6, i7, i9, i900, hne]
  rintro m ⟨env, S1⟩ ⟨k, hk, rfl, hsz, e0, e2, e6', e9', e44, e45, e46, s6, s9, s900, s11, sa, hrest⟩
  simp only at e0 e2 e6' e9' e44 e45 e46 s6 s9 s900 s11 sa hrest
  have hlk : (t.args.take k).length = k := by rw [List.length_take]; omega
  have hle := Tm.sizes_take_le (t.args.map f) k
  rw [← List.map_take] at hle
  have hkl := Tm.length_le ((t.args.take k).map f)
  rw [List.length_map, hlk] at hkl
  by_cases hlt : (k : Int) < t.args.length
  ·obtain ⟨a, ha⟩ := Ar (show k < t.args.length by omega)
   have ha' : (t.args.map f)[k]? = some (f a) := by rw [List.getElem?_map, ha]; rfl
   have z1 := Tm.sizes_take ha'
   have z2 := Tm.sizes_take_le (t.args.map f) (k + 1)
   rw [← List.map_take, ← List.map_take] at z1
   rw [← List.map_take] at z2
   repeat' with_reducible first | refine W ?_ | refine Z0 ?_ | ((first | refine Wo fun K hK => ?_ | refine Wq ?_ | refine Wr ?_); (try simp only [go_sem, fN, seval, eT, iR, e0, e2, e6', e9', e44, e45, e46, s6, s9, s900, s11, sa, hlt]); (repeat refine Ai ?_); (try (refine hK _ ?_; clear hK K)))
   with_reducible refine Wp ?_
   simp only [go_sem, fN, seval, true_implies, false_implies, implies_true, dT, dF, nL, hlt]
   (try with_reducible refine iC ?_)
   repeat' with_reducible first | refine W ?_ | refine Z0 ?_ | ((first | refine Wo fun K hK => ?_ | refine Wq ?_ | refine Wr ?_); (try simp only [go_sem, fN, seval, eT, iR, e0, e2, e6', e9', e44, e45, e46, s6, s9, s900, s11, sa, d11, d9, e11, ha]); (repeat refine Ai ?_); (try (refine hK _ ?_; clear hK K)))
   have hcall := ih a (Ae ha) (up1 a0) (left - 1 - Tm.sizes ((t.args.take k).map f)) (upS (AK (AK S1 11 (some (.box 25 [.st (.str ⟨#[]⟩), .full []]))) 11 (some (.box 25 [.st (.str a.name), .st (.list (a.args.map Ay))])))) (A5 a0) (by omega) (by omega) (by rw [A7, AM _ e11, AM _ e11, sa]; rfl)
   by_cases hfit : ((f a).size : Int) ≤ left - 1 - Tm.sizes ((t.args.take k).map f)
   ·rw [C9 hfit] at hcall
    refine ⟨_, _, hcall, ?_⟩
    have hge : ¬ left - 1 - Tm.sizes ((t.args.take k).map f) - (f a).size < 0 := by omega
    repeat' with_reducible first | refine W ?_ | refine Z0 ?_ | ((first | refine Wo fun K hK => ?_ | refine Wq ?_ | refine Wr ?_); (try simp only [go_sem, fN, seval, eT, iR, e0, e2, e6', e9', e44, e45, e46, s6, s9, s900, s11, d11, d9, e11, e9, e900, d900, hlk]); (repeat refine Ai ?_); (try (refine hK _ ?_; clear hK K)))
    with_reducible refine Wp ?_
    simp only [go_sem, fN, seval, true_implies, false_implies, implies_true, dT, dF, nL, hge]
    (try with_reducible refine iC ?_)
    repeat' with_reducible first | refine W ?_ | refine Z0 ?_ | ((first | refine Wo fun K hK => ?_ | refine Wq ?_ | refine Wr ?_); (try simp only [go_sem, fN, seval, eT, iR, e0, e2, e6', e9', e44, e45, e46, s6, s9, s900, s11, d11, d9, e11]); (repeat refine Ai ?_); (try (refine hK _ ?_; clear hK K)))
    refine AI ⟨t.args.length - (k + 1), by omega, k + 1, by omega, rfl, ?_⟩
    have hib : (a0 == 11) = false := by simp; omega
    have hzz : ((Tm.sizes ((t.args.take (k + 1)).map f) : Nat) : Int) = Tm.sizes ((t.args.take k).map f) + (f a).size := by omega
    refine ⟨by omega, ?_⟩
    simp only [go_sem, fN, seval, AS.drop, BW, AC.clears, AC.clear, AC.highs, AC.high, Bool.not_false, Bool.true_and, Bool.and_self, AV.purge, AV.purges, AC.purge, AL.purge, List.contains_cons, List.contains_nil, Nat.reduceBEq, Bool.or_self, Bool.or_false, Bool.false_or, Bool.or_true, eT, iR, e0, e2, e6', e9', e44, e45, s6, s9, s900, d11, d9, e11, e9, e900, d900, d6, hib]
    refine ⟨by congr 3, by rw [Au ha, List.map_append, List.map_append, List.map_cons, List.map_nil, List.map_cons, List.map_nil, Ac], ?_, fun i hi hne => ?_⟩
    ·congr 5
     omega
    ·have i9 : ¬ i = 9 := by omega
     have i11 : ¬ i = 11 := by omega
     have i900 : ¬ i = 900 := by omega
     have i11b : (i == 11) = false := by simp; omega
     simp only [go_sem, fN, seval, AS.drop, BW, AC.clears, AC.clear, AC.highs, AC.high, Bool.not_false, Bool.true_and, Bool.and_self, AV.purge, AV.purges, AC.purge, AL.purge, List.contains_cons, List.contains_nil, Nat.reduceBEq, Bool.or_self, Bool.or_false, Bool.false_or, Bool.or_true, eT, iR, i9, i11, i11b, i900, hne]
     rw [hrest i hi hne]
     exact Pl (by decide) fun b hb => (hS i b hb).2
   ·have hno : ¬ ((Tm.mk t.name (t.args.map f)).size : Int) ≤ left := by rw [hu]; omega
    rw [Cv hfit] at hcall
    refine ⟨_, _, hcall, ?_⟩
    repeat' with_reducible first | refine W ?_ | refine Z0 ?_ | ((first | refine Wo fun K hK => ?_ | refine Wq ?_ | refine Wr ?_); (try simp only [go_sem, fN, seval, eT, iR, e0, e2, e6', e9', e44, e45, e46, s6, s9, s900, s11, d11, d9, e11, e9, e900, d900, hlk]); (repeat refine Ai ?_); (try (refine hK _ ?_; clear hK K)))
    with_reducible refine Wp ?_
    simp only [go_sem, fN, seval, true_implies, false_implies, implies_true, dT, dF, nL]
    (try with_reducible refine iC ?_)
    repeat' with_reducible first | refine W ?_ | refine Z0 ?_ | ((first | refine Wo fun K hK => ?_ | refine Wq ?_ | refine Wr ?_); (try simp only [go_sem, fN, seval, eT, iR, e0, e2, e6', e9', e44, e45, e46, s6, s9, s900, s11, d11, d9, e11, e6, d6, d900, e900]); (repeat refine Ai ?_); (try (refine hK _ ?_; clear hK K)))
    rw [Cv hno]
    refine CX (.agg [.st (.str ⟨#[]⟩), .full []]) hS ha0 rfl trivial ?_ ?_ ?_ fun i hi hne => ?_
    ·simp only [go_sem, fN, seval, eT, iR, AB, AF, AP, e6', s6, e6, e9, e11, e900, d6, d9, d11, d900]
    ·simp only [go_sem, fN, seval, eT, iR, Tm.nil]
     rfl
    ·simp only [go_sem, fN, seval, eT, iR, e6, e9, e11, e900]
    ·have i6 : ¬ i = 6 := by omega
     have i9 : ¬ i = 9 := by omega
     have i11 : ¬ i = 11 := by omega
     have i900 : ¬ i = 900 := by omega
     simp only [go_sem, fN, seval, eT, iR, i6, i9, i11, i900, hne]
     exact hrest i hi hne
  ·have hall : t.args.take k = t.args := List.take_of_length_le (by omega)
   rw [hall] at hlk s900 hsz sa
   have hyes : ((Tm.mk t.name (t.args.map f)).size : Int) ≤ left := by rw [hu]; omega
   repeat' with_reducible first | refine W ?_ | refine Z0 ?_ | ((first | refine Wo fun K hK => ?_ | refine Wq ?_ | refine Wr ?_); (try simp only [go_sem, fN, seval, eT, iR, e0, e2, e6', e9', e44, e45, e46, s6, s9, s900, s11, sa, hlt]); (repeat refine Ai ?_); (try (refine hK _ ?_; clear hK K)))
   with_reducible refine Wp ?_
   simp only [go_sem, fN, seval, true_implies, false_implies, implies_true, dT, dF, nL, hlt]
   (try with_reducible refine iC ?_)
   repeat' with_reducible first | refine W ?_ | refine Z0 ?_ | ((first | refine Wo fun K hK => ?_ | refine Wq ?_ | refine Wr ?_); (try simp only [go_sem, fN, seval, eT, iR, e0, e2, e6', e9', e44, e45, e46, s6, s9, s900, s11, sa, d6]); (repeat refine Ai ?_); (try (refine hK _ ?_; clear hK K)))
   rw [C9 hyes]
   refine CX (.agg [.st (.str t.name), .row 900 k]) hS ha0 rfl trivial ?_ ?_ ?_ fun i hi hne => ?_
   ·simp only [go_sem, fN, seval, eT, iR, AB, AF, AP, e6', s6]
   ·simp only [go_sem, fN, seval, eT, iR, s900, hlk]
    rfl
   ·simp only [go_sem, fN, seval, eT, iR, e6, sa, hu]
    rw [show left - 1 - (Tm.sizes (t.args.map f) : Int) = left - ((1 + Tm.sizes (t.args.map f) : Nat) : Int) by omega]
   ·have i6 : ¬ i = 6 := by omega
    simp only [go_sem, fN, seval, eT, iR, i6]
    exact hrest i hi hne
theorem QX (s : List Bd) (h40 : s.length ≤ 100000) (ho : A4 s) (t : Tm) : ∀ (a0 : Nat) (left : Int) (S : AA), 1000 ≤ a0 → 0 ≤ left → left ≤ 1000000 → S a0 = some (F5 s left) →
  An Try.prog 42 [.one (.ptr a0 1 0 0), aTm t, Aj false] S (aTm (CI t left).1) (AK S a0 (some (F5 s (CI t left).2))) := by
 induction h : SizeOf.sizeOf t using Nat.strongRecOn generalizing t with
 | _ N ih =>
 subst h
 intro a0 left S h1 h2 h3 h4
 have := JN s h40 ho false id t (fun h => by cases h) (fun a ha => ih _ (Tm.lt_of_arg ha) a rfl) a0 left S h1 h2 h3 h4
 rw [List.map_id, Tm.eta] at this
 exact this
theorem P_ (s : List Bd) (h40 : s.length ≤ 100000) (ho : A4 s) (t : Tm) (hv : ∀ b ∈ s, AU b.1 = true) (hchk : t.chk = 0) : ∀ (a0 : Nat) (left : Int) (S : AA), 1000 ≤ a0 → 0 ≤ left → left ≤ 1000000 → S a0 = some (F5 s left) →
  An Try.prog 42 [.one (.ptr a0 1 0 0), aTm t, Aj true] S (aTm (CI (t.on s) left).1) (AK S a0 (some (F5 s (CI (t.on s) left).2))) := by
 induction h : SizeOf.sizeOf t using Nat.strongRecOn generalizing t with
 | _ N ih =>
 subst h
 intro a0 left S ha0 h0 h1 hSa
 obtain ⟨c1, c2⟩ := Tm.chk_args hchk
 cases hl : lookup s t.name with
 | none =>
  have := JN s h40 ho true (Tm.on s) t (fun _ => hl) (fun a ha => ih _ (Tm.lt_of_arg ha) a (c2 a ha) rfl) a0 left S ha0 h0 h1 hSa
  rw [← Tm.on_knot (.inl hl)] at this
  exact this
 | some x =>
  obtain ⟨b, hb, hbn, _⟩ := D3 hl
  have hargs := c1 (by rw [← hbn]; exact hv b hb)
  rw [Tm.on_leaf hl hargs]
  refine Bh.acS fun hS C hC => ?_
  have n4 : S 4 = none := AQ hS (by omega)
  have n6 : S 6 = none := AQ hS (by omega)
  have n7 : S 7 = none := AQ hS (by omega)
  have e4 : ¬ a0 = 4 := by omega
  have e6 : ¬ a0 = 6 := by omega
  have e7 : ¬ a0 = 7 := by omega
  have d4 : ¬ 4 = a0 := by omega
  have d6 : ¬ 6 = a0 := by omega
  have d7 : ¬ 7 = a0 := by omega
  unfold BI
  repeat' with_reducible first | refine W ?_ | refine Z0 ?_ | ((first | refine Wo fun K hK => ?_ | refine Wq ?_ | refine Wr ?_); (try simp only [go_sem, fN, seval, eT, iR, hSa, n4, n6, n7, d4, d6, d7, e4, e6, e7]); (repeat refine Ai ?_); (try (refine hK _ ?_; clear hK K)))
  with_reducible refine Wp ?_
  simp only [go_sem, fN, seval, true_implies, false_implies, implies_true, dT, dF, nL]
  (try with_reducible refine iC ?_)
  repeat' (first | (with_reducible first | refine W ?_ | refine Z0 ?_ | ((first | refine Wo fun K hK => ?_ | refine Wq ?_ | refine Wr ?_); (try simp only [go_sem, fN, seval, eT, iR, hSa, n4, n6, n7, d4, d6, d7, e4, e6, e7, hl]); (repeat refine Ai ?_); (try (refine hK _ ?_; clear hK K)))) | refine Cg _ (Pp s h40 ho t.name) ?_)
  with_reducible refine Wp ?_
  simp only [go_sem, fN, seval, true_implies, false_implies, implies_true, dT, dF, nL]
  (try with_reducible refine iC ?_)
  repeat' with_reducible first | refine W ?_ | refine Z0 ?_ | ((first | refine Wo fun K hK => ?_ | refine Wq ?_ | refine Wr ?_); (try simp only [go_sem, fN, seval, eT, iR, hSa, n4, n6, n7, d4, d6, d7, e4, e6, e7]); (repeat refine Ai ?_); (try (refine hK _ ?_; clear hK K)))
  have hcall := fun S' h => QX s h40 ho x (up1 a0) left S' (A5 a0) h0 h1 h
  refine ⟨_, _, hcall _ (by rw [A7]; (simp only [go_sem, fN, seval, eT, iR, e4, e6, e7, hSa])), ?_⟩
  repeat' with_reducible first | refine W ?_ | refine Z0 ?_ | ((first | refine Wo fun K hK => ?_ | refine Wq ?_ | refine Wr ?_); (try simp only [go_sem, fN, seval, eT, iR, e4, e6, e7, d4, d6, d7]); (repeat refine Ai ?_); (try (refine hK _ ?_; clear hK K)))
  refine CX (aTm (CI x left).1) hS ha0 rfl trivial ?_ ?_ ?_ fun i hi hne => ?_
  ·simp only [go_sem, fN, seval, eT, iR, AB, AF, AP, e4, e6, e7, d4, d6, d7]
  ·simp only [go_sem, fN, seval, eT, iR]
  ·simp only [go_sem, fN, seval, eT, iR, e4, e6, e7]
  ·have i4 : ¬ i = 4 := by omega
   have i6 : ¬ i = 6 := by omega
   have i7 : ¬ i = 7 := by omega
   simp only [go_sem, fN, seval, eT, iR, i4, i6, i7, hne]
theorem RQ (s : List Bd) (h40 : s.length ≤ 100000) (ho : A4 s) (t : Tm) (hv : ∀ b ∈ s, AU b.1 = true) (hchk : t.chk = 0) : AW Try.prog 36 [N8 s, aTm t] (.tup [aTm (CN s t).1, Aj (CN s t).2]) := by
 refine LW.ac fun C hC => ?_
 unfold Gl
 repeat' with_reducible first | refine W ?_ | refine Z0 ?_ | ((first | refine Wo fun K hK => ?_ | refine Wq ?_ | refine Wr ?_); (try simp only [go_sem, fN, seval, eT, iR]); (repeat refine Ai ?_); (try (refine hK _ ?_; clear hK K)))
 have hcall := fun S' h => P_ s h40 ho t hv hchk (up1 10) 2000 S' (A5 10) (by omega) (by omega) h
 refine ⟨_, _, hcall _ (by rw [A7]; rfl), ?_⟩
 by_cases hfit : ((t.on s).size : Int) ≤ 2000
 ·have e : CN s t = (t.on s, true) := by
   unfold CN
   rw [if_pos (by omega)]
  rw [C9 hfit]
  have hge : (0 : Int) ≤ 2000 - (t.on s).size := by omega
  repeat' with_reducible first | refine W ?_ | refine Z0 ?_ | ((first | refine Wo fun K hK => ?_ | refine Wq ?_ | refine Wr ?_); (try simp only [go_sem, fN, seval, eT, iR, hge]); (repeat refine Ai ?_); (try (refine hK _ ?_; clear hK K)))
  rw [e]
  simp only [go_sem, fN, seval, AZ, AS.result, AB, AF, AP]
 ·have e : CN s t = (Tm.nil, false) := by
   unfold CN
   rw [if_neg (by omega)]
  rw [Cv hfit]
  repeat' with_reducible first | refine W ?_ | refine Z0 ?_ | ((first | refine Wo fun K hK => ?_ | refine Wq ?_ | refine Wr ?_); (try simp only [go_sem, fN, seval, eT, iR]); (repeat refine Ai ?_); (try (refine hK _ ?_; clear hK K)))
  rw [e]
  simp only [go_sem, fN, seval, AZ, AS.result, AB, AF, AP]

def Ad : IR :=
 (.seq (.ops [.i 6 (.mov (.n 0)), .i 7 (.mov (.c (.one (.st (.bool false)))))]) (.seq (.ops [.m 12 0, .i 13 (.len false (.t 12)), .m 8 13]) (.seq (.ops [.m 14 8, .i 9 (.mov (.n 0)), .m 10 14]) (.seq (.block 0 (.loop (.seq (.seq (.ops [.m 15 9, .m 16 10, .i 17 (.bin .lss (.t 15) (.t 16))]) (.cond (.t 17) .skip (.exit 0))) (.block 1 (.seq (.ops [.m 18 9, .m 19 10, .i 20 (.bin .add (.t 18) (.t 19)), .i 21 (.conv .u64 (.t 20)), .i 22 (.bin .shr (.t 21) (.c (.one (.st (.int .u64 1))))), .i 23 (.conv .i64 (.t 22)), .m 11 23]) (.seq (.ops [.m 24 2, .m 25 0, .m 26 11, .i 27 (.indexAddr 3 (.t 25) (.t 26)), .L 28 3 27, .m 29 1, .i 30 (.callV (.t 24) [.t 28, .t 29]), .i 31 (.bin .lss (.t 30) (.n 0))]) (.cond (.t 31) (.ops [.m 32 11, .i 33 (.bin .add (.t 32) (.n 1)), .m 9 33]) (.ops [.m 34 11, .m 10 34])))))))) (.seq (.ops [.m 35 9, .m 36 9, .m 37 8, .i 38 (.bin .lss (.t 36) (.t 37)), .m 39 38, .mk (some 40) (some (39, true)) (.mov (.t 2)) .no, .mk (some 41) (some (39, true)) (.mov (.t 0)) .no, .mk (some 42) (some (39, true)) (.mov (.t 9)) .no, .mk (some 43) (some (39, true)) (.indexAddr 3 (.t 41) (.t 42)) .no, .mk (some 44) (some (39, true)) (.load true 3 (.t 43)) .no, .mk (some 45) (some (39, true)) (.mov (.t 1)) .no, .mk (some 46) (some (39, true)) (.callV (.t 40) [.t 44, .t 45]) .no, .mk (some 47) (some (39, true)) (.bin .eql (.t 46) (.n 0)) .no, .i 48 (.pick (.t 39) (.t 47) (.c (.one (.st (.bool false))))), .m 6 35, .m 7 48]) .ret)))))
theorem Av : OkF Try.prog 56 49 [] Ad [.t 6, .t 7] := .of Try.func56 rfl rfl (by kernel_rfl) rfl
def Ea : IR :=
 (.seq (.ops [.i 4 (.alloc 25 [.st (.str (ByteArray.mk (#[]))), .full []]), .i 5 (.mov (.c (.one (.st (.bool false)))))]) (.seq (.ops [.m 9 0, .m 10 1, .i 11 (.callR 56 [.t 9, .t 10, .c (.one (.fn 57 []))]), .m 8 11, .i 12 (.extract 0 (.t 8)), .i 13 (.extract 1 (.t 8)), .m 6 12, .m 7 13]) (.seq (.seq (.ops [.m 14 7, .i 15 (.un .not (.t 14))]) (.cond (.t 15) (.seq (.ops [.i 16 (.build [.st (.str (ByteArray.mk (#[]))), .full []] []), .s 2 4 16, .i 5 (.mov (.c (.one (.st (.bool false)))))]) .ret) .skip)) (.seq (.ops [.m 17 0, .m 18 6, .i 19 (.indexAddr 3 (.t 17) (.t 18)), .f 20 1 19, .L 21 2 20, .s 2 4 21, .i 5 (.mov (.c (.one (.st (.bool true)))))]) .ret))))
theorem HV : OkF Try.prog 49 22 [40000011] Ea [.cell 4 true 2, .t 5] := .of Try.func49 rfl rfl (by kernel_rfl) rfl
def BC : IR :=
 (.seq (.ops [.i 4 (.box 25 (.t 1)), .i 6 (.alloc 25 [.st (.str (ByteArray.mk (#[]))), .full []])]) (.seq (.seq (.ops [.m 12 2]) (.cond (.t 12) (.seq (.ops [.m 14 0, .i 15 (.nilCheck (.t 14)), .f 16 0 15, .l 17 16, .f 18 0 4, .l 19 18, .i 20 (.callR 49 [.t 17, .t 19]), .m 13 20, .i 21 (.extract 0 (.t 13)), .i 22 (.extract 1 (.t 13)), .i 7 (.alloc 25 [.st (.str (ByteArray.mk (#[]))), .full []]), .s 2 7 21, .m 8 22]) (.seq (.ops [.m 23 8]) (.cond (.t 23) (.seq (.ops [.m 24 0, .L 25 2 7, .i 26 (.callS 42 [.t 24, .t 25, .c (.one (.st (.bool false)))]), .s 2 6 26]) .ret) .skip))) .skip)) (.seq (.seq (.ops [.m 27 0, .i 28 (.nilCheck (.t 27)), .f 29 1 28, .l 30 29, .i 31 (.bin .sub (.t 30) (.n 1)), .i 32 (.nilCheck (.t 27)), .f 33 1 32, .s 1 33 31]) (.seq (.ops [.m 34 0, .i 35 (.nilCheck (.t 34)), .f 36 1 35, .l 37 36, .i 38 (.bin .lss (.t 37) (.n 0))]) (.cond (.t 38) (.seq (.ops [.i 39 (.build [.st (.str (ByteArray.mk (#[]))), .full []] []), .s 2 6 39]) .ret) .skip))) (.seq (.ops [.f 40 0 4, .l 41 40, .i 42 (.build [.st (.str (ByteArray.mk (#[]))), .full []] [(0, 1, .t 41)]), .i 9 (.alloc 25 [.st (.str (ByteArray.mk (#[]))), .full []]), .s 2 9 42]) (.seq (.seq (.ops [.f 43 1 4, .l 44 43, .i 45 (.len false (.t 44)), .i 46 (.mov (.n 0))]) (.block 0 (.loop (.seq (.ops [.i 47 (.bin .lss (.t 46) (.t 45))]) (.seq (.cond (.t 47) .skip (.exit 0)) (.seq (.block 1 (.seq (.ops [.i 48 (.indexAddr 2 (.t 44) (.t 46)), .L 49 2 48, .i 11 (.alloc 25 [.st (.str (ByteArray.mk (#[]))), .full []]), .s 2 11 49]) (.seq (.ops [.mk (some 50) none (.fieldAddr 1 (.t 9)) (.onb 9), .mk (some 51) none (.load false 1 (.t 50)) (.onb 9), .m 52 0, .L 53 2 11, .m 54 2, .mk (some 55) none (.callS 42 [.t 52, .t 53, .t 54]) (.keeps [9, 9]), .i 56 (.buildSlice false 25 2 [.t 55]), .i 57 (.append false 25 2 40 (.t 51) (.t 56)), .f 58 1 9, .s 1 58 57]) (.seq (.ops [.m 59 0, .i 60 (.nilCheck (.t 59)), .f 61 1 60, .l 62 61, .i 63 (.bin .lss (.t 62) (.n 0))]) (.cond (.t 63) (.seq (.ops [.i 64 (.build [.st (.str (ByteArray.mk (#[]))), .full []] []), .s 2 6 64]) .ret) .skip))))) (.ops [.i 65 (.bin .add (.t 46) (.n 1)), .m 46 65]))))))) (.seq (.ops [.L 66 2 9, .s 2 6 66]) .ret))))))
theorem Bb : OkF Try.prog 42 67 [40000020, 26, 55] BC [.cell 6 true 2] := .of Try.func42 rfl rfl (by kernel_rfl) rfl
def F1 : IR :=
 (.seq (.ops [.i 3 (.box 25 (.t 1)), .i 4 (.alloc 25 [.st (.str (ByteArray.mk (#[]))), .full []]), .i 5 (.mov (.c (.one (.st (.bool false)))))]) (.seq (.ops [.m 8 0, .i 9 (.build [.full [], .st (.int .i64 0)] [(0, 1, .t 8), (1, 1, .n 2000)]), .i 10 (.box 88 (.t 9)), .m 6 10]) (.seq (.ops [.m 11 6, .L 12 2 3, .i 13 (.callS 42 [.t 11, .t 12, .c (.one (.st (.bool true)))]), .i 7 (.alloc 25 [.st (.str (ByteArray.mk (#[]))), .full []]), .s 2 7 13]) (.seq (.ops [.L 14 2 7, .m 15 6, .mk (some 16) none (.nilCheck (.t 15)) (.onb 10), .mk (some 17) none (.fieldAddr 1 (.t 16)) (.onb 10), .mk (some 18) none (.load false 1 (.t 17)) (.onb 10), .i 19 (.bin .geq (.t 18) (.n 0)), .mk none none (.store 2 (.t 4) (.t 14)) (.onb 4), .m 5 19]) .ret))))
theorem Jz : OkF Try.prog 36 20 [13, 10060010] F1 [.cell 4 true 2, .t 5] := .of Try.func36 rfl rfl (by kernel_rfl) rfl

abbrev BS (l : List Bd) : AL := .mrow 54 3 (l.map CY)

end Go.Proofs.Ytlgpchphdhdllaa
