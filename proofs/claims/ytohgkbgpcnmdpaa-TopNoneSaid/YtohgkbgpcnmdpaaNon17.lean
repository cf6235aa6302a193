/-
  Part 17 of the texts: AbsV; IrParse; PParse; BRead; BEndsP. Conditions: none.
-/
import Derived.Test.YtohgkbgpcnmdpaaNon16
namespace Go.Proofs.Ytohgkbgpcnmdpaa
open Go Go.RowKit
set_option linter.unusedVariables false
set_option maxHeartbeats 400000
def APan (P : Program) (f : FuncId) (xs : List AV) (S : AStore) (v : Value) (S' : AStore) : Prop :=
  Clean S → ∀ (σ : Sto) (w : World) (vs : List Value) (ι : AHnd), GlobIn σ → Fit σ w → Owned σ S ι w → All2 (VRep σ S ι) vs xs →
    Calls P f vs.toArray w fun e w' => ∃ σ' ι', e = .panicked [{ v := v, recovered := false }] ∧ Clean S' ∧ Upd S ι S' ι' ∧ Owned σ' S' ι' w' ∧ Fit σ' w' ∧ (∀ p x, σ p = some x → σ' p = some x) ∧
      (∀ p : Addr, p.block < w.heap.size → notOf S ι p.block → σ' p = σ p) ∧ (w'.os = w.os ∧ w'.tape = w.tape ∧ w'.output = w.output) ∧ w.heap.size ≤ w'.heap.size ∧
      (∀ g, g < w.heap.size → notOf S ι g → w'.heap[g]? = w.heap[g]?) ∧ (∀ id b g, S' id = some b → (ι' id).g = some g → w.heap.size ≤ g ∨ ¬ notOf S ι g)
section
variable {P : Program} {C : Ctx} {a : Act} {w : World} {σ : Sto} {ι : AHnd} {s : AS} {Q : Exit → Act → World → Prop} {o : Oper}
theorem callPan_core {f : FuncId} {vs : List Value} {avs : List AV} {v : Value} {S' : AStore} {next : Act → World → Prop} (R : Refs C σ ι s a w) (hrun : (execOp a.eval o).run P w = .ok (.enter f vs.toArray) w) (hvs : All2 (VRep σ s.S ι) vs avs)
    (h : APan P f (AV.rens up1 avs) (upS s.S) v S') (hQ : ∀ a' w', Holds C ⟨s.env, dnS S'⟩ a' w' → Q (.panic [{ v := v, recovered := false }]) a' w') : o.wp P a w next Q := by
  have hup : ∀ i, dn1 (up1 i) = i := dn_up
  have hS : ∀ i b, s.S i = some b → upS s.S (up1 i) = some (b.ren up1) := fun i b hb => upS_some hb
  obtain ⟨ι1, hι1⟩ : ∃ ι1 : AHnd, ∀ i, ι1 i = ι (dn1 i) := ⟨fun i => ι (dn1 i), fun _ => rfl⟩
  have hι : ∀ i b, s.S i = some b → ι1 (up1 i) = ι i := fun i b _ => by rw [hι1, hup]
  have hown : Owned σ (upS s.S) ι1 w := by
    refine ⟨fun id b hb => ?_, fun id id' b b' g h1 h2 g1 g2 => ?_⟩
    · obtain ⟨hle, b', h1, rfl⟩ := upS_inv hb
      have := BRep.ren (S2 := upS s.S) (ι2 := ι1) (ρ := up1) hS hι (R.blk _ _ h1)
      rw [hι1]
      exact this
    · obtain ⟨l1, c1, k1, _⟩ := upS_inv h1
      obtain ⟨l2, c2, k2, _⟩ := upS_inv h2
      rw [hι1] at g1 g2
      have := R.inj _ _ _ _ g k1 k2 g1 g2
      rw [← up_dn l1, ← up_dn l2, this]
  have hargs : All2 (VRep σ (upS s.S) ι1) vs (AV.rens up1 avs) := by
    rw [AV.rens_eq]
    exact (hvs.mono fun _ _ x => VRep.ren (S2 := upS s.S) (ι2 := ι1) (ρ := up1) hS hι x).map_right
  unfold Oper.wp
  rw [hrun, Oper.upon_enter]
  refine (h (clean_upS _) σ w vs _ (C.glob.mono R.ext) R.fit hown hargs).mono fun e w' he => ?_
  obtain ⟨σ', ι', rfl, hclean, hupd, hown', hf', hkeep, hold, hos, hsz, hsame, hbase⟩ := he
  have hSd : ∀ i b, S' i = some b → dnS S' (dn1 i) = some (b.ren dn1) := fun i b hb => dnS_some (hclean i b hb).1 hb
  obtain ⟨ι2, hι2⟩ : ∃ ι2 : AHnd, ∀ i, ι2 i = ι' (up1 i) := ⟨fun i => ι' (up1 i), fun _ => rfl⟩
  have hιd : ∀ i b, S' i = some b → ι2 (dn1 i) = ι' i := fun i b hb => by
    rw [hι2, up_dn (hclean i b hb).1]
  have hu : Upd s.S ι (dnS S') ι2 := fun id b hb => by
    obtain ⟨b', h1, h2, h3⟩ := hupd _ _ (hS id b hb)
    have h4 := hSd _ _ h1
    rw [hup] at h4
    refine ⟨_, h4, by rw [ren_len] at h2 ⊢; exact h2, fun hl => ?_⟩
    rw [ren_len] at hl
    obtain ⟨q1, q2⟩ := h3 (by rw [ren_len]; exact hl)
    refine ⟨by rw [ren_wid] at q1 ⊢; exact q1, ?_⟩
    rw [hι2, q2, hι1, hup]
  have hnot : ∀ g, g < C.N → ¬ C.G g → notOf (upS s.S) ι1 g := fun g h1 h2 id b hb hg => by
    obtain ⟨_, b', k1, _⟩ := upS_inv hb
    rw [hι1] at hg
    rcases R.base _ _ g k1 hg with h | h
    · omega
    · exact h2 h
  have R' : Refs C σ' ι2 ⟨s.env, dnS S'⟩ a w' := by
    refine ⟨R.size, fun i hi => (R.env i hi).mono hkeep hu, R.nod, hf', fun id b hb => ?_, fun id id' b b' g h1 h2 g1 g2 => ?_, fun id b g hb hg => ?_, fun p x hx => hkeep _ _ (R.ext p x hx), fun p h1 h2 => ?_, ⟨hos.1.trans R.os.1, hos.2.1.trans R.os.2.1, hos.2.2.trans R.os.2.2⟩, ⟨Nat.le_trans R.grown.1 hsz, Nat.le_trans R.grown.2 hsz⟩, fun g h1 h2 => ?_, R.upd.trans hu⟩
    · obtain ⟨b', h1, rfl⟩ := dnS_inv hb
      have := BRep.ren (S2 := dnS S') (ι2 := ι2) (ρ := dn1) hSd hιd (hown'.1 _ _ h1)
      rw [hι2]
      exact this
    · obtain ⟨c1, k1, _⟩ := dnS_inv h1
      obtain ⟨c2, k2, _⟩ := dnS_inv h2
      rw [hι2] at g1 g2
      have := congrArg dn1 (hown'.2 _ _ _ _ g k1 k2 g1 g2)
      rw [hup, hup] at this
      exact this
    · obtain ⟨b', h1, _⟩ := dnS_inv hb
      rw [hι2] at hg
      rcases hbase _ _ g h1 hg with h2 | h2
      · exact .inl (by have := R.grown.1; omega)
      · by_cases hN : g < C.N
        · by_cases hG : C.G g
          · exact .inr hG
          · exact absurd (hnot g hN hG) h2
        · exact .inl (by omega)
    · exact (hold p (by have := R.grown.1; omega) (hnot _ h1 h2)).trans (R.old p h1 h2)
    · exact (hsame g (by have := R.grown.1; omega) (hnot g h1 h2)).trans (R.same g h1 h2)
  exact hQ _ _ ⟨σ', _, R'⟩
def PanAt (P : Program) (kd : Kd) (s : AS) (E : Value → AStore → Prop) : Prop := match kd with
  | .callS f xs => ∃ v S', APan P f (AV.rens up1 (s.evs xs)) (upS s.S) v S' ∧ E v (dnS S')
  | .pan x => match s.ev x with
    | .one (.st (.lit (.iface t u))) => E (.iface t u) s.S
    | _ => False
  | _ => False
theorem go_env {kd : Kd} {d : Nat} {K : AV → AS → Prop} (h : kd.go P d s K) : kd.go P d s fun v s' => K v s' ∧ s'.env = s.env := by
  by_cases hdet : kd.det = true
  · obtain ⟨v, S1, h1, h2, h3⟩ := go_loc hdet h
    exact (h3 s.env (fun _ _ => rfl)).1 _ ⟨h1, rfl⟩
  · cases kd
    case next x =>
      simp only [Kd.go] at h ⊢
      split at h
      · exact ⟨fun hj => ⟨h.1 hj, trivial⟩, fun j x c h1 h2 h3 => ⟨h.2 j x c h1 h2 h3, rfl⟩⟩
      · exact h.elim
    case memoGet ok z m k =>
      simp only [Kd.go] at h ⊢
      split at h
      · exact ⟨h.1, ⟨h.2.1, trivial⟩, fun cs' ds' x h1 h2 h3 => ⟨h.2.2 cs' ds' x h1 h2 h3, trivial⟩⟩
      · exact h.elim
    all_goals exact absurd rfl hdet
theorem put_env' {s' : AS} {dd : Option Nat} {v : AV} {t : Nat} (h : dd ≠ some t) : (s'.put dd v).env t = s'.env t := put_env (env := s'.env) (S1 := s'.S) h
theorem ins_env {i : Ins} {K : AS → Prop} (h : i.go P s K) : i.go P s fun s' => K s' ∧ ∀ t, i.dst ≠ some t → s'.env t = s.env t := by
  have hgo : ∀ {d : Nat} {K' : AV → AS → Prop}, i.kd.goT P d s i.tag K' → i.kd.goT P d s i.tag fun v s' => K' v s' ∧ s'.env = s.env := fun hh => go_mono (go_env hh) fun v s' hv => ⟨hv.1.1, hv.1.2, hv.2⟩
  have hput : ∀ (v : AV) (s' : AS), s'.env = s.env → ∀ t, i.dst ≠ some t → (s'.put i.dst v).env t = s.env t := fun v s' he t ht => by rw [put_env' ht, he]
  unfold Ins.go at h ⊢
  revert h
  cases i.guard with
  | none =>
    intro h
    exact goT_mono (hgo h) fun v s' _ hv => ⟨hv.1, hput v s' hv.2⟩
  | some gw =>
    obtain ⟨g, want⟩ := gw
    intro h
    dsimp only at h ⊢
    split at h
    · rename_i b e1
      refine ⟨fun hb => goT_mono (hgo (h.1 hb)) fun v s' _ hv => ⟨hv.1, hput v s' hv.2⟩, fun hb => ⟨h.2 hb, hput _ _ rfl⟩⟩
    · exact ⟨h, hput _ _ rfl⟩
    · exact h.elim
theorem insMono {i : Ins} {K K' : AS → Prop} (h : i.go P s K) (hm : ∀ s, K s → K' s) : i.go P s K' := by
  unfold Ins.go at h ⊢
  revert h
  cases i.guard with
  | none =>
    intro h
    exact goT_mono h fun v s' _ hv => hm _ hv
  | some gw =>
    obtain ⟨g, want⟩ := gw
    intro h
    dsimp only at h ⊢
    split at h
    · exact ⟨fun hb => goT_mono (h.1 hb) fun v s' _ hv => hm _ hv, fun hb => hm _ (h.2 hb)⟩
    · exact hm _ h
    · exact h.elim
theorem runMono {K K' : AS → Prop} (hm : ∀ s, K s → K' s) : ∀ {l : List Ins} {s : AS}, Run P l s K → Run P l s K'
  | [], s, h => hm _ h
  | i :: l, s, h => by
    rw [run_cons] at h ⊢
    exact insMono h fun s' h' => runMono hm h'
theorem panAt_mono {kd : Kd} {E E' : Value → AStore → Prop} (h : PanAt P kd s E) (hm : ∀ v S', E v S' → E' v S') : PanAt P kd s E' := by
  cases kd <;> simp only [PanAt] at h ⊢
  case callS f xs =>
    obtain ⟨v, S', h1, h2⟩ := h
    exact ⟨v, S', h1, hm _ _ h2⟩
  case pan x =>
    split at h
    · exact hm _ _ h
    · exact h.elim
theorem panAt_loc {kd : Kd} {s1 : AS} {E : Value → AStore → Prop} (h : PanAt P kd s1 E) (hS : s1.S = s.S) (he : ∀ t ∈ kd.reads, s1.env t = s.env t) : PanAt P kd s E := by
  cases kd <;> simp only [PanAt] at h
  case callS f xs =>
    obtain ⟨v, S', h1, h2⟩ := h
    refine ⟨v, S', ?_, h2⟩
    have e : s.evs xs = s1.evs xs := evs_loc (s := s1) (env' := s.env) (S' := s.S) fun t ht => (he t ht).symm
    rw [e, ← hS]
    exact h1
  case pan x =>
    have e : s.ev x = s1.ev x := ev_loc (s := s1) (env' := s.env) (S' := s.S) fun t ht => (he t ht).symm
    simp only [PanAt, e]
    rw [← hS]
    exact h
theorem trKd0_callS {n : Nat} {mu : List Nat} {dst : Option Nat} {op : Op} {f : Nat} {xs : List Opd} (h : trKd0 P n mu dst op = some (.callS f xs)) : ∃ c, op = .call c ∧ trCall P n mu dst c = some (.callS f xs) := by
  unfold trKd0 at h
  split at h
  case h_20 c => exact ⟨c, rfl, h⟩
  all_goals (exfalso; revert h; (repeat' split) <;> simp)
theorem trCall_callS {n : Nat} {mu : List Nat} {dst : Option Nat} {c : Call} {f : Nat} {xs : List Opd} (h : trCall P n mu dst c = some (.callS f xs)) : c.callee = .value (.func f) ∧ plainF P f = true ∧ trOpds n c.args.toList = some xs := by
  unfold trCall at h
  split at h
  case h_6 g hc =>
    split at h
    · rename_i hpl
      rw [Option.map_eq_some_iff] at h
      obtain ⟨ys, hy, he⟩ := h
      have hfx : g = f ∧ ys = xs := by
        revert he
        (repeat' split) <;> simp <;> (intro h1 h2; exact ⟨h1, h2⟩)
      obtain ⟨rfl, rfl⟩ := hfx
      exact ⟨hc, hpl, hy⟩
    · cases h
  all_goals (exfalso; revert h; (repeat' split) <;> simp)
theorem trCall_pan {n : Nat} {mu : List Nat} {dst : Option Nat} {c : Call} {x : Opd} : ¬ trCall P n mu dst c = some (.pan x) := by
  intro h
  unfold trCall at h
  split at h
  all_goals (revert h; (repeat' split) <;> simp)
  all_goals (intro _ _; (repeat' split) <;> simp)
theorem trKd0_pan {n : Nat} {mu : List Nat} {dst : Option Nat} {op : Op} {x : Opd} : ¬ trKd0 P n mu dst op = some (.pan x) := by
  intro h
  unfold trKd0 at h
  split at h
  case h_20 c => exact trCall_pan h
  all_goals (revert h; (repeat' split) <;> simp)
theorem trMemo_not {n : Nat} {op : Op} {k : Kd} (h : trMemo P n op = some k) : (∀ f xs, k ≠ .callS f xs) ∧ ∀ x, k ≠ .pan x := by
  refine ⟨fun f xs e => ?_, fun x e => ?_⟩ <;> subst e <;> unfold trMemo at h <;> revert h <;> (repeat' split) <;> simp
theorem pan_sound {mu : List Nat} {ops : List Oper} {k k' : Ins} (htr : trIns P C.n mu ops o = some k) (hk' : k'.dst = k.dst ∧ k'.guard = k.guard ∧ k'.kd = k.kd) (hg : k'.guard = none) {E : Value → AStore → Prop} {next : Act → World → Prop} (R : Refs C σ ι s a w) (h : PanAt P k'.kd s E)
    (hQ : ∀ v S' a' w', E v S' → Holds C ⟨s.env, S'⟩ a' w' → Q (.panic [{ v := v, recovered := false }]) a' w') : o.guard = none ∧ o.wp P a w next Q := by
  unfold trIns at htr
  split at htr
  · rename_i g kd e1 e2
    cases htr
    obtain ⟨hk1, hk2, hk3⟩ := hk'
    dsimp only at hk1 hk2 hk3
    rw [hg] at hk2
    subst hk2
    refine ⟨?_, ?_⟩
    · cases hog : o.guard with
      | none => rfl
      | some jw =>
        rw [hog] at e1
        obtain ⟨j, want⟩ := jw
        simp only [trGuard] at e1
        split at e1
        · split at e1
          · split at e1 <;> cases e1
          · cases e1
        · cases e1
    · rw [hk3] at h
      clear hk3
      unfold trKd at e2
      cases kd <;> simp only [PanAt] at h
      case callS f xs =>
        obtain ⟨v, S', h1, h2⟩ := h
        have h0 : trKd0 P C.n mu o.dst o.op = some (.callS f xs) := by
          split at e2
          · rename_i k0 hk0
            cases e2
            exact hk0
          · split at e2
            · rename_i k0 hk1
              cases e2
              exact absurd rfl ((trMemo_not hk1).1 f xs)
            · split at e2
              · rw [Option.map_eq_some_iff] at e2
                obtain ⟨_, _, e⟩ := e2
                cases e
              · cases e2
        obtain ⟨c, ho, hc⟩ := trKd0_callS h0
        obtain ⟨hcal, hpl, hy⟩ := trCall_callS hc
        refine callPan_core (vs := c.args.toList.map a.eval) R ?_ (R.evs hy) h1 fun a' w' hH => hQ _ _ _ _ h2 hH
        have := run_enter (P := P) (w := w) (args := c.args.map a.eval) hpl
        have e : (c.args.toList.map a.eval).toArray = c.args.map a.eval := by rw [← Array.toList_map, Array.toArray_toList]
        rw [e]
        obtain ⟨cal, args, tys⟩ := c
        dsimp only at hcal
        subst hcal
        simp [execOp, ho, resolve, Deferred.ofValue, Act.eval, invoke, this]
      case pan x =>
        split at e2
        · rename_i k0 hk0
          cases e2
          exact absurd hk0 trKd0_pan
        · split at e2
          · rename_i k0 hk1
            cases e2
            exact absurd rfl ((trMemo_not hk1).2 x)
          · split at e2
            · rename_i y hop
              rw [Option.map_eq_some_iff] at e2
              obtain ⟨x', hx, e⟩ := e2
              cases e
              split at h
              · rename_i t u e3
                have rx := R.ev hx
                rw [e3] at rx
                have hex := srep_lit (arep_st (vrep_one rx))
                unfold Oper.wp
                have : (execOp a.eval o).run P w = .halt (.panic (.iface t u)) w := by
                  simp [execOp, hop, hex, Instr.panic, goPanic]
                rw [this, Oper.upon_panic]
                exact hQ _ _ _ _ h ⟨σ, ι, R⟩
              · exact h.elim
            · cases e2
  · cases htr
def panOk (l : List Ins) (j : Nat) : Bool := match l[j]? with
  | some y => y.guard.isNone && (List.range l.length).all fun i => match l[i]? with
    | some x => if i < j then !x.indep y || (x.kd.keepS && x.kd.det) else if j < i then !y.indep x else true
    | none => true
  | none => false
theorem panOk_facts {l : List Ins} {j : Nat} {y : Ins} (hj : l[j]? = some y) (h : panOk l j = true) : y.guard = none ∧ (∀ i x, i < j → l[i]? = some x → x.indep y = true → x.kd.keepS = true ∧ x.kd.det = true) ∧ ∀ i x, j < i → l[i]? = some x → y.indep x = false := by
  unfold panOk at h
  rw [hj] at h
  simp only [Bool.and_eq_true, Option.isNone_iff_eq_none, List.all_eq_true, List.mem_range] at h
  refine ⟨h.1, fun i x hi hx hd => ?_, fun i x hi hx => ?_⟩
  · have := h.2 i (List.getElem?_eq_some_iff.1 hx).1
    rw [hx] at this
    simpa [hi, hd] using this
  · have := h.2 i (List.getElem?_eq_some_iff.1 hx).1
    rw [hx] at this
    simpa [show ¬ i < j by omega, hi] using this
theorem indep_reads {x y : Ins} (h : x.indep y = true) : ∀ t ∈ y.reads, x.dst ≠ some t := by
  unfold Ins.indep at h
  simp only [Bool.and_eq_true] at h
  intro t ht e
  have h1 := h.1.1.2
  rw [e] at h1
  simp [ht] at h1
theorem run_keep {R : List Nat} : ∀ (l : List Ins) (s : AS) {K : AS → Prop}, (∀ x ∈ l, x.kd.keepS = true ∧ x.kd.det = true ∧ ∀ t ∈ R, x.dst ≠ some t) → Run P l s K → ∃ s1, K s1 ∧ s1.S = s.S ∧ ∀ t ∈ R, s1.env t = s.env t
  | [], s, _, _, h => ⟨s, h, rfl, fun _ _ => rfl⟩
  | x :: l, s, K, hx, h => by
    rw [run_cons] at h
    obtain ⟨k1, k2, k3⟩ := hx x List.mem_cons_self
    obtain ⟨v, S1, h1, h2, _⟩ := ins_loc k2 h
    have e := h2 k1
    subst e
    obtain ⟨s1, m1, m2, m3⟩ := run_keep l _ (fun x' hx' => hx x' (List.mem_cons_of_mem _ hx')) h1
    exact ⟨s1, m1, m2.trans put_S, fun t ht => (m3 t ht).trans (put_env (k3 t ht))⟩
theorem filterMap_take (ks : List Ins) : ∀ j : Nat, (List.range j).filterMap (fun i => ks[i]?) = ks.take j
  | 0 => rfl
  | j + 1 => by
    rw [List.range_succ, List.filterMap_append, filterMap_take ks j, List.take_add_one]
    cases h : ks[j]? <;> simp [h]
theorem region_pan {mu : List Nat} {ops : Array Oper} {ks0 ks : List Ins} {id j : Nat} {y : Ins} {E : Value → AStore → Prop} (hmix : P.follows .mixedOrders = true) (htr : trAll P C.n mu ops.toList ops.toList = some ks0) (hre : Retag ks0 ks) (hok : orderOk ops.toList ks = true) (hj : ks[j]? = some y) (hp : panOk ks j = true)
    (R : Refs C σ ι s a w) (h : Run P (ks.take j) s fun s1 => PanAt P y.kd s1 E) (hQ : ∀ v S' env a' w', E v S' → (∀ t, (∀ k ∈ ks, k.dst ≠ some t) → env t = s.env t) → Holds C ⟨env, S'⟩ a' w' → Q (.panic [{ v := v, recovered := false }]) a' w') : (Code.region id ops true).wp P Q a w := by
  obtain ⟨p1, p2, p3⟩ := panOk_facts hj hp
  obtain ⟨hl0, hget0⟩ := trAll_get htr
  have hl : ops.size = ks.length := by
    rw [← hre.1, ← hl0, Array.length_toList]
  have hjl : j < ops.size := by rw [hl]; exact (List.getElem?_eq_some_iff.1 hj).1
  have hget : ∀ (i : Nat) (o : Oper), ops.toList[i]? = some o → ∃ k', ks[i]? = some k' ∧ ∃ k, trIns P C.n mu ops.toList o = some k ∧ k'.dst = k.dst ∧ k'.guard = k.guard ∧ k'.kd = k.kd := fun i o ho => by
    obtain ⟨k, h1, h2⟩ := hget0 i o ho
    obtain ⟨k', q1, q2⟩ := hre.2 i k h1
    exact ⟨k', q1, k, h2, q2⟩
  refine wp_region_any hmix ?_
  have hchk : ∀ i, i < ops.size → (∀ o, ops[i]? = some o → ∀ e ∈ o.after, Region.binds .any e = true → e.on < i) ∧ ∀ j, j < i → ∀ x y, ks[j]? = some x → ks[i]? = some y → x.indep y = true ∨ behind ops.toList ops.toList.length j i = true := fun i hi => by
    have h1 := List.all_eq_true.1 hok i (List.mem_range.2 (by simpa using hi))
    simp only [Bool.and_eq_true] at h1
    refine ⟨fun o ho e he hb => ?_, fun j hj x y hx hy => ?_⟩
    · have h2 := h1.1
      rw [show ops.toList[i]? = some o by simpa using ho] at h2
      dsimp only at h2
      obtain ⟨k, hk, rfl⟩ := Array.getElem_of_mem he
      have h3 := (Array.all_eq_true.1 h2) k hk
      simpa [hb] using h3
    · have h2 := List.all_eq_true.1 h1.2 j (List.mem_range.2 hj)
      rw [hx, hy] at h2
      simpa using h2
  have key : ∀ (f : Nat) (T : List Nat) (listed : Array Bool) (s1 : AS) (a : Act) (w : World), (∀ t, (∀ k ∈ ks, k.dst ≠ some t) → s1.env t = s.env t) → T.length ≤ f → listed.size = ops.size → T.Pairwise (· < ·) → (∀ i, i ∈ T ↔ i < ops.size ∧ listed.getD i true = false) →
      (∀ k o, ops[k]? = some o → listed.getD k true = true → k < ops.size → ∀ e ∈ o.after, Region.binds .any e = true → listed.getD e.on false = true) → j ∈ T → Holds C s1 a w → Run P ((T.filter fun i => decide (i < j)).filterMap fun i => ks[i]?) s1 (fun s1 => PanAt P y.kd s1 E) → wpAny P .any ops Q f listed a w := by
    intro f
    induction f with
    | zero =>
      intro T listed s0 a w hE hf hsz hs hT hdc hjT hH hr
      have hT0 : T = [] := List.eq_nil_of_length_eq_zero (by omega)
      subst hT0
      cases hjT
    | succ f ih =>
      intro T listed s0 a w hE hf hsz hs hT hdc hjT hH hr
      have hgone : ∀ i k, i ∈ T → (∀ o, ops[k]? = some o → ∀ e ∈ o.after, Region.binds .any e = true → listed.getD e.on false = true) → behind ops.toList ops.toList.length i k = true → False := fun i k hi hk hbe => by
        have h1 := behind_listed (ops := ops) (listed := listed) hdc (i := k) _ i k hk hbe
        have h2 := ((hT i).1 hi).2
        have h3 := ((hT i).1 hi).1
        simp [show i < listed.size by omega] at h1 h2
        rw [h1] at h2
        cases h2
      refine ⟨fun hready => ?_, fun i hi => ?_⟩
      · cases T with
        | nil => cases hjT
        | cons i T =>
          exfalso
          obtain ⟨hi1, hi2⟩ := (hT i).1 (by simp)
          have : i ∈ Region.ready .any ops listed := by
            refine mem_ready.2 ⟨hi2, ops[i], Array.getElem?_eq_getElem hi1, fun e he hb => ?_⟩
            have hlt := (hchk i hi1).1 _ (Array.getElem?_eq_getElem hi1) e he hb
            cases hq : listed.getD e.on true with
            | true =>
              simp [show e.on < listed.size by omega] at hq ⊢
              exact hq
            | false =>
              have hmem := (hT e.on).2 ⟨by omega, hq⟩
              rcases List.mem_cons.1 hmem with h | h
              · omega
              · have := (List.pairwise_cons.1 hs).1 _ h
                omega
          rw [hready] at this
          cases this
      · obtain ⟨q1, o, q2, q3⟩ := mem_ready.1 hi
        have hi1 := (Array.getElem?_eq_some_iff.1 q2).1
        have hmem := (hT i).2 ⟨hi1, q1⟩
        have q3' : ∀ o2, ops[i]? = some o2 → ∀ e ∈ o2.after, Region.binds .any e = true → listed.getD e.on false = true := fun o2 ho2 e he hb => by
          rw [q2] at ho2
          cases ho2
          exact q3 e he hb
        obtain ⟨k', hy1, k0, hy2, hy3⟩ := hget i o (by simpa using q2)
        rcases Nat.lt_trichotomy i j with hij | hij | hij
        · obtain ⟨pre, post, rfl⟩ := List.append_of_mem hmem
          rw [List.filter_append, List.filter_cons, if_pos (by simpa using hij), List.filterMap_append, List.filterMap_cons, hy1] at hr
          dsimp only at hr
          have hpre : ∀ j ∈ pre, j < i := fun j hj => (List.pairwise_append.1 hs).2.2 j hj i (by simp)
          have hfront := run_front (P := P) (pre := (pre.filter fun i => decide (i < j)).filterMap fun i => ks[i]?) (y := k') (post := (post.filter fun i => decide (i < j)).filterMap fun i => ks[i]?) (fun x hx => by
            obtain ⟨m, hm, hxm⟩ := List.mem_filterMap.1 hx
            have hm' := (List.mem_filter.1 hm).1
            rcases (hchk i hi1).2 m (hpre m hm') x k' hxm hy1 with hind | hbe
            · exact hind
            · exact (hgone m i (by simp [hm']) q3' hbe).elim) hr
          obtain ⟨σ, ι, R⟩ := hH
          refine ins_sound q2 hy2 hy3 R (ins_env hfront) fun s' a' w' hKE hH' => ?_
          obtain ⟨hK, hE'⟩ := hKE
          rw [← List.filterMap_append, ← List.filter_append] at hK
          have hsub : (pre ++ post).Pairwise (· < ·) := by
            refine hs.sublist ?_
            exact List.Sublist.append (List.Sublist.refl pre) (List.sublist_cons_self i post)
          have hni : i ∉ pre ++ post := fun hm => by
            rcases List.mem_append.1 hm with hm | hm
            · have := hpre i hm; omega
            · have := (List.pairwise_cons.1 (List.pairwise_append.1 hs).2.1).1 i hm; omega
          refine ih (pre ++ post) (listed.setIfInBounds i true) s' a' w' (fun t ht => (hE' t (ht _ (List.mem_of_getElem? hy1))).trans (hE t ht)) (by simp at hf ⊢; omega) (by simpa using hsz) hsub (fun m => ?_) (fun k ok hok2 hlk hkk e he hb => ?_) ?_ hH' hK
          · constructor
            · intro hm
              have hmi : i ≠ m := fun e => hni (e ▸ hm)
              have := (hT m).1 (by
                rcases List.mem_append.1 hm with h | h
                · simp [h]
                · simp [h])
              refine ⟨this.1, ?_⟩
              have h3 := this.2
              simp only [Array.getD_eq_getD_getElem?] at h3 ⊢
              rw [Array.getElem?_setIfInBounds_ne hmi]
              exact h3
            · rintro ⟨h1, h2⟩
              have hmi : i ≠ m := fun e => by
                subst e
                simp [show i < listed.size by omega] at h2
              have h3 : listed.getD m true = false := by
                simp only [Array.getD_eq_getD_getElem?] at h2 ⊢
                rw [Array.getElem?_setIfInBounds_ne hmi] at h2
                exact h2
              have := (hT m).2 ⟨h1, h3⟩
              rcases List.mem_append.1 this with h | h
              · exact List.mem_append_left _ h
              · rcases List.mem_cons.1 h with h | h
                · exact absurd h.symm hmi
                · exact List.mem_append_right _ h
          · have hstep : ∀ m, listed.getD m false = true → (listed.setIfInBounds i true).getD m false = true := fun m hm => by
              by_cases e : i = m
              · subst e
                simp [show i < listed.size by omega]
              · simp only [Array.getD_eq_getD_getElem?] at hm ⊢
                rw [Array.getElem?_setIfInBounds_ne e]
                exact hm
            by_cases hki : i = k
            · subst hki
              exact hstep _ (q3' ok hok2 e he hb)
            · refine hstep _ (hdc k ok hok2 ?_ hkk e he hb)
              simp only [Array.getD_eq_getD_getElem?] at hlk ⊢
              rw [Array.getElem?_setIfInBounds_ne hki] at hlk
              exact hlk
          · rcases List.mem_append.1 hjT with h | h
            · exact List.mem_append_left _ h
            · rcases List.mem_cons.1 h with h | h
              · omega
              · exact List.mem_append_right _ h
        · subst hij
          rw [hj] at hy1
          cases hy1
          obtain ⟨s1, k1, k2, k3⟩ := run_keep (R := y.kd.reads) _ _ (fun x hx => by
            obtain ⟨m, hm, hxm⟩ := List.mem_filterMap.1 hx
            obtain ⟨hmT, hmi⟩ := List.mem_filter.1 hm
            have hmi : m < i := by simpa using hmi
            rcases (hchk i hi1).2 m hmi x y hxm hj with hind | hbe
            · obtain ⟨r1, r2⟩ := p2 m x hmi hxm hind
              exact ⟨r1, r2, fun t ht => indep_reads hind t (by simp [Ins.reads, ht])⟩
            · exact (hgone m i hmT q3' hbe).elim) hr
          obtain ⟨σ, ι, R⟩ := hH
          obtain ⟨g1, g2⟩ := pan_sound (next := wpAny P .any ops Q f (listed.setIfInBounds i true)) hy2 hy3 p1 R (panAt_loc k1 k2 k3) fun v S' a' w' h1 h2 => hQ v S' s0.env a' w' h1 hE h2
          unfold wpOp
          rw [q2]
          dsimp only
          rw [if_pos (by simp [Region.wanted, g1])]
          exact .inl g2
        · exfalso
          rcases (hchk i hi1).2 j hij y k' hj hy1 with hind | hbe
          · rw [p3 i k' hij hy1] at hind
            cases hind
          · exact hgone j i hjT q3' hbe
  have e0 : ((List.range ops.size).filter fun i => decide (i < j)).filterMap (fun i => ks[i]?) = ks.take j := by
    obtain ⟨m, hm⟩ : ∃ m, ops.size = j + m := ⟨ops.size - j, by omega⟩
    rw [hm, List.range_add, List.filter_append, List.filter_eq_self.2 (fun i hi => by simpa using hi), List.filter_eq_nil_iff.2 (fun i hi => by
      obtain ⟨k, _, rfl⟩ := List.mem_map.1 hi
      simp), List.append_nil]
    exact filterMap_take ks j
  refine key ops.size (List.range ops.size) (Array.replicate ops.size false) s a _ (fun _ _ => rfl) (by simp) (by simp) List.pairwise_lt_range (fun i => ?_) (fun k o hk hlk hkk e he hb => ?_) (List.mem_range.2 hjl) ⟨σ, ι, R.drew⟩ (by rw [e0]; exact h)
  · simp only [List.mem_range, Array.getD_eq_getD_getElem?]
    constructor
    · intro hi
      simp [hi]
    · rintro ⟨hi, _⟩
      exact hi
  · simp [hkk] at hlk
theorem region_pan_text {mu : List Nat} {ops : Array Oper} {ks : List Ins} {id j : Nat} {y : Ins} {E : Value → AStore → Prop} (htr : trAll P C.n mu ops.toList ops.toList = some ks) (hj : ks[j]? = some y) (hp : panOk ks j = true)
    (R : Refs C σ ι s a w) (h : Run P (ks.take j) s fun s1 => PanAt P y.kd s1 E) (hQ : ∀ v S' env a' w', E v S' → (∀ t, (∀ k ∈ ks, k.dst ≠ some t) → env t = s.env t) → Holds C ⟨env, S'⟩ a' w' → Q (.panic [{ v := v, recovered := false }]) a' w') : (Code.region id ops false).wp P Q a w := by
  obtain ⟨p1, p2, p3⟩ := panOk_facts hj hp
  obtain ⟨hl, hget⟩ := trAll_get htr
  have hl' : ops.size = ks.length := by rw [← hl, Array.length_toList]
  have hjl : j < ks.length := (List.getElem?_eq_some_iff.1 hj).1
  refine wp_region ?_
  have key : ∀ (m k : Nat) (s1 : AS) (a : Act) (w : World), (∀ t, (∀ k ∈ ks, k.dst ≠ some t) → s1.env t = s.env t) → k + m = ops.size → k ≤ j → Holds C s1 a w → Run P ((ks.take j).drop k) s1 (fun s1 => PanAt P y.kd s1 E) → wpOps P ops Q (List.range' k m) a w := by
    intro m
    induction m with
    | zero => intro k s1 a w hE hk hkj; omega
    | succ m ih =>
      intro k s1 a w hE hk hkj hH hr
      have hlt : k < ops.toList.length := by simp; omega
      obtain ⟨oo, hoo⟩ : ∃ oo, ops.toList[k]? = some oo := ⟨_, List.getElem?_eq_getElem hlt⟩
      obtain ⟨kk, h1, h2⟩ := hget k oo hoo
      have hop : ops[k]? = some oo := by rw [← Array.getElem?_toList]; exact hoo
      obtain ⟨σ, ι, R⟩ := hH
      rw [List.range'_succ, wpOps_cons]
      by_cases hkj' : k = j
      · subst hkj'
        rw [hj] at h1
        cases h1
        rw [List.drop_of_length_le (by simp; omega)] at hr
        obtain ⟨g1, g2⟩ := pan_sound (next := wpOps P ops Q (List.range' (k + 1) m)) h2 ⟨rfl, rfl, rfl⟩ p1 R hr fun v S' a' w' h1 h2 => hQ v S' s1.env a' w' h1 hE h2
        unfold wpOp
        rw [hop]
        dsimp only
        rw [if_pos (by simp [Region.wanted, g1])]
        exact .inl g2
      · have hd : (ks.take j).drop k = kk :: (ks.take j).drop (k + 1) := by
          have hk' : k < (ks.take j).length := by simp; omega
          rw [List.drop_eq_getElem_cons hk']
          congr 1
          rw [List.getElem_take]
          exact (List.getElem?_eq_some_iff.1 h1).2
        rw [hd, run_cons] at hr
        exact ins_sound (i := k) hop h2 ⟨rfl, rfl, rfl⟩ R (ins_env hr) fun s' a' w' hK hH' => ih (k + 1) s' a' w' (fun t ht => (hK.2 t (ht _ (List.mem_of_getElem? h1))).trans (hE t ht)) (by omega) (by omega) hH' hK.1
  rw [List.range_eq_range']
  exact key ops.size 0 s a w (fun _ _ => rfl) (by omega) (by omega) ⟨σ, ι, R⟩ (by simpa using h)
end
section
variable {P : Program} {C : Ctx} {mu : List Nat} {Q : AX → AS → Prop} {s : AS}
theorem IWP.opsPanR {l : List Ins} (j : Nat) (y : Ins) (hj : l[j]? = some y) (hp : panOk l j = true) (h : Run P (l.take j) s fun s1 => PanAt P y.kd s1 fun v S' => ∀ env, (∀ t, (l.all fun k => k.dst != some t) = true → env t = s.env t) → Q (.pan v) ⟨env, S'⟩) : IWP P C mu (.ops l) Q s := fun c hc a w hH => by
  have hQ : ∀ (v : Value) (S' : AStore) (env : Nat → AV) (a' : Act) (w' : World), (∀ env, (∀ t, (l.all fun k => k.dst != some t) = true → env t = s.env t) → Q (.pan v) ⟨env, S'⟩) → (∀ t, (∀ k ∈ l, k.dst ≠ some t) → env t = s.env t) → Holds C ⟨env, S'⟩ a' w' → lift C Q (.panic [{ v := v, recovered := false }]) a' w' := fun v S' env a' w' hE hk hH => ⟨_, v, ⟨hE env fun t ht => hk t fun k hk' => by simpa using List.all_eq_true.1 ht k hk', rfl⟩, hH⟩
  cases c <;> simp only [trCode] at hc
  case region id ops draw =>
    split at hc
    · rename_i ks e1
      obtain ⟨σ, ι, R⟩ := hH
      cases draw with
      | true =>
        simp only [if_true] at hc
        split at hc
        · rename_i h1
          cases hc
          simp only [Bool.and_eq_true] at h1
          exact region_pan h1.1 e1 (Retag.refl _) h1.2 hj hp R h hQ
        · split at hc
          · rename_i h1
            cases hc
            simp only [Bool.and_eq_true] at h1
            exact region_pan h1.1 e1 (retag_ok _ 0 _) h1.2 hj hp R h hQ
          · cases hc
      | false =>
        simp only [Bool.false_eq_true, if_false, Option.some.injEq, IR.ops.injEq] at hc
        subst hc
        exact region_pan_text e1 hj hp R h hQ
    · cases hc
  all_goals (exfalso; revert hc; (repeat' split) <;> simp)
theorem IWP.opsPanE {l : List Ins} (j : Nat) (y : Ins) (hj : l[j]? = some y) (hp : panOk l j = true) (h : Run2 P (l.take j) s fun s1 => PanAt P y.kd s1 fun v S' => ∀ env, (∀ t, (l.all fun k => k.dst != some t) = true → env t = s.env t) → Q (.pan v) ⟨env, S'⟩) : IWP P C mu (.ops l) Q s := IWP.opsPanR j y hj hp (run2_run h)
theorem IWP.opsPan {l : List Ins} (j : Nat) (y : Ins) (hj : l[j]? = some y) (hp : panOk l j = true) (h : Run2 P (l.take j) s fun s1 => PanAt P y.kd s1 fun v S' => ∀ env, Q (.pan v) ⟨env, S'⟩) : IWP P C mu (.ops l) Q s :=
  IWP.opsPanR j y hj hp (runMono (fun s1 h1 => panAt_mono h1 fun v S' h2 env _ => h2 env) (run2_run h))
def noPan : List Ins → Bool
  | [] => true
  | i :: l => (match i.kd with | .pan _ => false | _ => true) && noPan l
theorem IWP.ops3 {l : List Ins} (hn : noPan l = true) (h : ∀ K : AS → Prop, (∀ s, Q .normal s → K s) → Run2 P l s K) : IWP P C mu (.ops l) Q s := IWP.ops2 h
theorem seqQ_pan {y : IR} {v : Value} (h : Q (.pan v) s) : seqQ P C mu y Q (.pan v) s := h
theorem inBlock_pan {id : Nat} {v : Value} (h : Q (.pan v) s) : AX.inBlock id Q (.pan v) s := h
theorem then_pan {K : AS → Prop} {v : Value} (h : Q (.pan v) s) : AX.then K Q (.pan v) s := h
def FinP (C : Ctx) (v : Value) (S' : AStore) (e : AX) (s : AS) : Prop := e = .pan v ∧ ∃ s2, Ghost C s s2 ∧ s2.S = S' ∧ Clean S'
theorem apan_of {f : FuncId} {fn : Func} {c : Code} {x : IR} {xs : List AV} {S : AStore} {v : Value} {S' : AStore} (hf : P.funcs[f]? = some fn) (hb : fn.body = some c) (hx : trCode P fn.ntmps mu c = some x) (hn : xs.length ≤ fn.ntmps)
    (h : Clean S → ∀ C : Ctx, C.n = fn.ntmps → IWP P C mu x (FinP C v S') (AS.startS xs S)) : APan P f xs S v S' := by
  intro hclean σ w vs ι hglob hfit hown hvs
  have hl := hvs.len
  let C : Ctx := ⟨fn.ntmps, w.heap.size, fun g => ¬ notOf S ι g, σ, w, S, ι, hclean, hglob, []⟩
  refine calls_of_wp hf hb ?_
  have R : Refs C σ ι (AS.startS xs S) { tmps := vs.toArray ++ Array.replicate (fn.ntmps - vs.toArray.size) undef, defers := [] } w := by
    refine ⟨by simp [C]; omega, fun i hi => ?_, rfl, hfit, hown.1, hown.2, fun id b g h hg => .inr (fun hno => hno id b h hg), fun _ _ h => h, fun _ _ _ => rfl, ⟨rfl, rfl, rfl⟩, ⟨Nat.le_refl _, Nat.le_refl _⟩, fun _ _ _ => rfl, Upd.refl _ _⟩
    show VRep σ S ι _ ((xs[i]?).getD (.tup []))
    rw [Array.getD_eq_getD_getElem?]
    by_cases hlt : i < vs.length
    · rw [Array.getElem?_append_left (by simpa using hlt)]
      obtain ⟨b, hb1, hb2⟩ := hvs.get' (List.getElem?_eq_getElem hlt)
      rw [hb1]
      simpa [hlt] using hb2
    · rw [Array.getElem?_append_right (by simp; omega), List.getElem?_eq_none (by omega)]
      have hi' : i < fn.ntmps := hi
      rw [Array.getElem?_replicate, if_pos (by simp; omega)]
      exact .tup (fun _ => undef) rfl (by simp) (by simp)
  refine wp_mono (h hclean C rfl c hx _ w ⟨σ, ι, R⟩) fun e a' w' he => ?_
  cases e with
  | panic ch =>
    obtain ⟨s, v', ⟨⟨h1, s2, hg, hS, hc⟩, rfl⟩, hH⟩ := he
    cases h1
    obtain ⟨σ', ι', R'⟩ := hg _ _ hH
    subst hS
    exact ⟨R'.nod, σ', ι', rfl, hc, R'.upd, ⟨R'.blk, R'.inj⟩, R'.fit, R'.ext, fun p h1 h2 => R'.old p h1 (fun h => h h2), R'.os, R'.grown.2, fun g h1 h2 => R'.same g h1 (fun h => h h2), fun id b g h1 h2 => R'.base id b g h1 h2⟩
  | normal => obtain ⟨s, h1, h2⟩ := he; cases h1.1
  | ret => obtain ⟨s, h1, h2⟩ := he; cases h1.1
  | exit id => obtain ⟨s, h1, h2⟩ := he; cases h1.1
  | _ => exact he.elim
end
abbrev Wx := @IWP.ops3
abbrev Wy := @seqQ_pan
abbrev Wz := @inBlock_pan
abbrev Wv := @then_pan
end Go.Proofs.Ytohgkbgpcnmdpaa

namespace Go.Proofs.Ytohgkbgpcnmdpaa
open Go Go.RowKit
set_option maxRecDepth 100000
def ir_metaprune_term_reader_term : IR :=
  (.seq
  (.ops
  [.mk (some 2) none
  (.alloc 24 [.st (.str (ByteArray.mk (#[]))), .full []]) .no])
  (.seq
  (.ops
  [.mk (some 3) none (.mov (.c (.one (.st (.int .i64 0)))))
  .no])
  (.seq
  (.block 0
  (.loop
  (.seq
  (.seq
  (.ops
  [.mk (some 6) none (.mov (.t 3)) .no, .mk (some 7) none (.mov (.t 0)) .no, .mk (some 8) none (.nilCheck (.t 7)) .no, .mk (some 9) none (.fieldAddr 0 (.t 8)) .no, .mk (some 10) none (.load false 1 (.t 9)) .no, .mk (some 11) none (.len true (.t 10)) .no, .mk (some 12) none (.bin .lss (.t 6) (.t 11))
  .no, .mk (some 13) none (.mov (.t 12)) .no, .mk (some 14) (some (13, true)) (.mov (.t 0)) .no, .mk (some 15) (some (13, true)) (.nilCheck (.t 14)) .no, .mk (some 16) (some (13, true)) (.fieldAddr 0 (.t 15)) .no, .mk (some 17) (some (13, true)) (.load false 1 (.t 16)) .no, .mk (some 18) (some (13, true)) (.mov (.t 3)) .no, .mk (some 19) (some (13, true)) (.indexStr (.t 17) (.t 18))
  .no, .mk (some 20) (some (13, true)) (.call 47 [.t 19]) .no, .mk (some 21) none
  (.pick (.t 13) (.t 20) (.c (.one (.st (.bool false)))))
  .no])
  (.cond (.t 21) .skip (.exit 0)))
  (.block 1
  (.ops
  [.mk (some 22) none (.mov (.t 3)) .no, .mk (some 23) none (.bin .add (.t 22) (.c (.one (.st (.int .i64 1)))))
  .no, .mk (some 3) none (.mov (.t 23)) .no])))))
  (.seq
  (.seq
  (.ops
  [.mk (some 24) none (.mov (.t 3)) .no, .mk (some 25) none (.bin .eql (.t 24) (.c (.one (.st (.int .i64 0)))))
  .no])
  (.cond (.t 25)
  (.seq
  (.seq
  (.ops
  [.mk (some 26) none (.mov (.t 0)) .no, .mk (some 27) none (.nilCheck (.t 26)) .no, .mk (some 28) none (.fieldAddr 0 (.t 27)) .no, .mk (some 29) none (.load false 1 (.t 28)) .no, .mk (some 30) none (.bin .eql (.t 29) (.c (.one (.st (.str (ByteArray.mk (#[])))))))
  .no])
  (.cond (.t 30)
  (.ops
  [.mk (some 31) none
  (.iface 62 (.c (.one (.st (.int .i64 13)))))
  .no, .mk none none (.pan (.t 31)) .no])
  .skip))
  (.ops
  [.mk (some 32) none
  (.iface 62 (.c (.one (.st (.int .i64 12)))))
  .no, .mk none none (.pan (.t 32)) .no]))
  .skip))
  (.seq
  (.ops
  [.mk (some 33) none (.mov (.t 0)) .no, .mk (some 34) none (.nilCheck (.t 33)) .no, .mk (some 35) none (.fieldAddr 0 (.t 34)) .no, .mk (some 36) none (.load false 1 (.t 35)) .no, .mk (some 37) none (.mov (.t 3)) .no, .mk (some 38) none (.sliceS (.t 36) none (some (.t 37)))
  .no, .mk (some 39) none
  (.build [.st (.str (ByteArray.mk (#[]))), .full []]
  [(0, 1, .t 38)])
  .no, .mk (some 4) none
  (.alloc 24 [.st (.str (ByteArray.mk (#[]))), .full []])
  .no, .mk none none (.store 2 (.t 4) (.t 39)) .no])
  (.seq
  (.seq
  (.ops
  [.mk (some 40) none (.fieldAddr 0 (.t 4)) .no, .mk (some 41) none (.load false 1 (.t 40)) .no, .mk (some 42) none (.call 48 [.t 41]) .no, .mk (some 43) none (.un .not (.t 42)) .no])
  (.cond (.t 43)
  (.ops
  [.mk (some 44) none
  (.iface 62 (.c (.one (.st (.int .i64 1)))))
  .no, .mk none none (.pan (.t 44)) .no])
  .skip))
  (.seq
  (.seq
  (.ops
  [.mk (some 45) none (.mov (.t 0)) .no, .mk (some 46) none (.nilCheck (.t 45)) .no, .mk (some 47) none (.fieldAddr 1 (.t 46)) .no, .mk (some 48) none (.load false 1 (.t 47)) .no, .mk (some 49) none (.bin .sub (.t 48) (.c (.one (.st (.int .i64 1)))))
  .no, .mk (some 50) none (.nilCheck (.t 45)) .no, .mk (some 51) none (.fieldAddr 1 (.t 50)) .no, .mk none none (.store 1 (.t 51) (.t 49))
  .no])
  (.seq
  (.ops
  [.mk (some 52) none (.mov (.t 0)) .no, .mk (some 53) none (.nilCheck (.t 52)) .no, .mk (some 54) none (.fieldAddr 1 (.t 53)) .no, .mk (some 55) none (.load false 1 (.t 54)) .no, .mk (some 56) none (.bin .lss (.t 55) (.c (.one (.st (.int .i64 0)))))
  .no])
  (.cond (.t 56)
  (.ops
  [.mk (some 57) none
  (.iface 62 (.c (.one (.st (.int .i64 3)))))
  .no, .mk none none (.pan (.t 57)) .no])
  .skip)))
  (.seq
  (.ops
  [.mk (some 58) none (.mov (.t 0)) .no, .mk (some 59) none (.mov (.t 0)) .no, .mk (some 60) none (.nilCheck (.t 59)) .no, .mk (some 61) none (.fieldAddr 0 (.t 60)) .no, .mk (some 62) none (.load false 1 (.t 61)) .no, .mk (some 63) none (.mov (.t 3)) .no, .mk (some 64) none (.sliceS (.t 62) (some (.t 63)) none)
  .no, .mk (some 65) none (.nilCheck (.t 58)) .no, .mk (some 66) none (.fieldAddr 0 (.t 65)) .no, .mk none none (.store 1 (.t 66) (.t 64))
  .no])
  (.seq
  (.seq
  (.ops
  [.mk (some 67) none (.mov (.t 0)) .no, .mk (some 68) none (.nilCheck (.t 67)) .no, .mk (some 69) none (.fieldAddr 0 (.t 68)) .no, .mk (some 70) none (.load false 1 (.t 69)) .no, .mk (some 71) none (.call 49
  [.t 70, .c (.one (.st (.str (ByteArray.mk (#[40])))))])
  .no, .mk (some 72) none (.un .not (.t 71)) .no])
  (.cond (.t 72)
  (.seq
  (.ops
  [.mk (some 73) none (.load true 2 (.t 4)) .no, .mk none none (.store 2 (.t 2) (.t 73))
  .no])
  .ret)
  .skip))
  (.seq
  (.seq
  (.ops
  [.mk (some 74) none (.fieldAddr 0 (.t 4)) .no, .mk (some 75) none (.load false 1 (.t 74)) .no, .mk (some 76) none (.call 44 [.t 75]) .no])
  (.cond (.t 76)
  (.ops
  [.mk (some 77) none
  (.iface 62 (.c (.one (.st (.int .i64 2)))))
  .no, .mk none none (.pan (.t 77)) .no])
  .skip))
  (.seq
  (.seq
  (.ops
  [.mk (some 5) none (.mov (.c (.one (.st (.bool true)))))
  .no])
  (.block 2
  (.loop
  (.seq
  (.seq
  (.ops
  [.mk (some 78) none (.mov (.t 5)) .no])
  (.cond (.t 78) .skip (.exit 2)))
  (.block 3
  (.seq
  (.ops
  [.mk (some 79) none (.mov (.t 0)) .no, .mk (some 80) none (.mov (.t 0)) .no, .mk (some 81) none (.nilCheck (.t 80)) .no, .mk (some 82) none (.fieldAddr 0 (.t 81)) .no, .mk (some 83) none (.load false 1 (.t 82)) .no, .mk (some 84) none
  (.sliceS (.t 83)
  (some (.c (.one (.st (.int .i64 1))))) none)
  .no, .mk (some 85) none (.nilCheck (.t 79)) .no, .mk (some 86) none (.fieldAddr 0 (.t 85)) .no, .mk none none (.store 1 (.t 86) (.t 84))
  .no])
  (.seq
  (.ops
  [.mk (some 87) none (.fieldAddr 1 (.t 4)) (.onb 4), .mk (some 88) none (.load false 1 (.t 87))
  (.onb 4), .mk (some 89) none (.mov (.t 0)) .no, .mk (some 90) none (.callS 27 [.t 89]) (.keeps [4, 4]), .mk (some 91) none (.buildSlice false 24 2 [.t 90])
  .no, .mk (some 92) none
  (.append false 24 2 40 (.t 88) (.t 91)) .no, .mk (some 93) none (.fieldAddr 1 (.t 4)) .no, .mk none none (.store 1 (.t 93) (.t 92))
  .no])
  (.block 4
  (.seq
  (.ops
  [.mk (some 95) none (.mov (.t 0)) .no, .mk (some 96) none (.nilCheck (.t 95)) .no, .mk (some 97) none (.fieldAddr 0 (.t 96)) .no, .mk (some 98) none (.load false 1 (.t 97))
  .no, .mk (some 99) none (.bin .eql (.t 98) (.c (.one (.st (.str (ByteArray.mk (#[])))))))
  .no, .mk (some 94) none (.mov (.t 99)) .no])
  (.cond (.t 94)
  (.ops
  [.mk (some 100) none
  (.iface 62 (.c (.one (.st (.int .i64 13)))))
  .no, .mk none none (.pan (.t 100)) .no])
  (.seq
  (.ops
  [.mk (some 102) none (.mov (.t 0)) .no, .mk (some 103) none (.nilCheck (.t 102)) .no, .mk (some 104) none (.fieldAddr 0 (.t 103))
  .no, .mk (some 105) none (.load false 1 (.t 104))
  .no, .mk (some 106) none
  (.indexStr (.t 105) (.c (.one (.st (.int .i64 0)))))
  .no, .mk (some 107) none (.bin .eql (.t 106) (.c (.one (.st (.int .u8 41)))))
  .no, .mk (some 101) none (.mov (.t 107)) .no])
  (.cond (.t 101)
  (.ops
  [.mk (some 5) none (.mov (.c (.one (.st (.bool false)))))
  .no])
  (.seq
  (.ops
  [.mk (some 109) none (.mov (.t 0)) .no, .mk (some 110) none (.nilCheck (.t 109))
  .no, .mk (some 111) none (.fieldAddr 0 (.t 110))
  .no, .mk (some 112) none (.load false 1 (.t 111))
  .no, .mk (some 113) none
  (.indexStr (.t 112) (.c (.one (.st (.int .i64 0)))))
  .no, .mk (some 114) none (.bin .neq (.t 113) (.c (.one (.st (.int .u8 44)))))
  .no, .mk (some 108) none (.mov (.t 114)) .no])
  (.cond (.t 108)
  (.ops
  [.mk (some 115) none
  (.iface 62 (.c (.one (.st (.int .i64 12)))))
  .no, .mk none none (.pan (.t 115)) .no])
  .skip))))))))))))))
  (.seq
  (.ops
  [.mk (some 116) none (.mov (.t 0)) .no, .mk (some 117) none (.mov (.t 0)) .no, .mk (some 118) none (.nilCheck (.t 117)) .no, .mk (some 119) none (.fieldAddr 0 (.t 118)) .no, .mk (some 120) none (.load false 1 (.t 119)) .no, .mk (some 121) none
  (.sliceS (.t 120)
  (some (.c (.one (.st (.int .i64 1))))) none)
  .no, .mk (some 122) none (.nilCheck (.t 116)) .no, .mk (some 123) none (.fieldAddr 0 (.t 122)) .no, .mk none none (.store 1 (.t 123) (.t 121))
  .no])
  (.seq
  (.ops
  [.mk (some 124) none (.load true 2 (.t 4)) .no, .mk none none (.store 2 (.t 2) (.t 124))
  .no])
  .ret)))))))))))))
theorem tr_metaprune_term_reader_term : trCode Try.prog 125 [90] (Try.f27.body.getD .skip) = some ir_metaprune_term_reader_term := by kernel_rfl
theorem acS_metaprune_term_reader_term {xs : List AV} {S S' : AStore} {r : AV} (hn : xs.length ≤ 125) (h : Clean S → ∀ C : Ctx, C.n = 125 → IWP Try.prog C [90] ir_metaprune_term_reader_term (FinS C [.cell 2 true 2] r S') (AS.startS xs S)) : ACallsS Try.prog 27 xs S r S' :=
  acallsS_of Try.func27 rfl tr_metaprune_term_reader_term rfl hn h
theorem acP_metaprune_term_reader_term {xs : List AV} {S S' : AStore} {v : Value} (hn : xs.length ≤ 125) (h : Clean S → ∀ C : Ctx, C.n = 125 → IWP Try.prog C [90] ir_metaprune_term_reader_term (FinP C v S') (AS.startS xs S)) : APan Try.prog 27 xs S v S' :=
  apan_of Try.func27 rfl tr_metaprune_term_reader_term hn h
def ir_strings_HasPrefix : IR :=
  (.seq
  (.ops
  [.mk (some 4) none (.mov (.c (.one (.st (.bool false)))))
  .no])
  (.seq
  (.ops
  [.mk (some 5) none (.mov (.t 0)) .no, .mk (some 6) none (.mov (.t 1)) .no, .mk (some 7) none (.call 66 [.t 5, .t 6]) .no, .mk (some 4) none (.mov (.t 7)) .no])
  .ret))
theorem tr_strings_HasPrefix : trCode Try.prog 8 [] (Try.f49.body.getD .skip) = some ir_strings_HasPrefix := by kernel_rfl
theorem ac_strings_HasPrefix {xs : List AV} {r : AV} (hn : xs.length ≤ 8) (h : ∀ C : Ctx, C.n = 8 → IWP Try.prog C [] ir_strings_HasPrefix (FinQ [.t 4] r) (AS.start xs)) : ACalls Try.prog 49 xs r :=
  acalls_of Try.func49 rfl tr_strings_HasPrefix rfl hn h
def ir_internal_stringslite_HasPrefix : IR :=
  (.seq
  (.ops
  [.mk (some 4) none (.mov (.c (.one (.st (.bool false)))))
  .no])
  (.seq
  (.ops
  [.mk (some 5) none (.mov (.t 0)) .no, .mk (some 6) none (.len true (.t 5)) .no, .mk (some 7) none (.mov (.t 1)) .no, .mk (some 8) none (.len true (.t 7)) .no, .mk (some 9) none (.bin .geq (.t 6) (.t 8)) .no, .mk (some 10) none (.mov (.t 9)) .no, .mk (some 11) (some (10, true)) (.mov (.t 0)) .no, .mk (some 12) (some (10, true)) (.mov (.t 1)) .no, .mk (some 13) (some (10, true)) (.len true (.t 12)) .no, .mk (some 14) (some (10, true))
  (.sliceS (.t 11) none (some (.t 13))) .no, .mk (some 15) (some (10, true)) (.mov (.t 1)) .no, .mk (some 16) (some (10, true)) (.bin .eql (.t 14) (.t 15))
  .no, .mk (some 17) none
  (.pick (.t 10) (.t 16) (.c (.one (.st (.bool false)))))
  .no, .mk (some 4) none (.mov (.t 17)) .no])
  .ret))
theorem tr_internal_stringslite_HasPrefix : trCode Try.prog 18 [] (Try.f66.body.getD .skip) = some ir_internal_stringslite_HasPrefix := by kernel_rfl
theorem ac_internal_stringslite_HasPrefix {xs : List AV} {r : AV} (hn : xs.length ≤ 18) (h : ∀ C : Ctx, C.n = 18 → IWP Try.prog C [] ir_internal_stringslite_HasPrefix (FinQ [.t 4] r) (AS.start xs)) : ACalls Try.prog 66 xs r :=
  acalls_of Try.func66 rfl tr_internal_stringslite_HasPrefix rfl hn h
def ir_term_Parse_1 : IR :=
  (.seq
  (.ops
  [.mk (some 5) none .never .no, .mk (some 6) none .never .no, .mk (some 4) none (.mov (.t 6)) .no, .mk (some 7) none (.extract 0 (.t 4)) .no, .mk (some 8) none (.extract 1 (.t 4)) .no, .mk (some 2) none (.mov (.t 7)) .no, .mk (some 3) none (.mov (.t 8)) .no])
  (.seq
  (.ops [.mk (some 9) none (.mov (.t 3)) .no])
  (.cond (.t 9)
  (.ops
  [.mk (some 10) none
  (.build [.st (.str (ByteArray.mk (#[]))), .full []] []) .no, .mk (some 11) none (.mov (.t 2)) .no, .mk none none (.store 2 (.t 0) (.t 10)) .no, .mk none none (.store 1 (.t 1) (.t 11)) .no])
  .skip)))
theorem tr_term_Parse_1 : trCode Try.prog 12 [] (Try.f26.body.getD .skip) = some ir_term_Parse_1 := by kernel_rfl
def ir_term_Parse : IR :=
  (.seq
  (.ops
  [.mk (some 2) none
  (.alloc 24 [.st (.str (ByteArray.mk (#[]))), .full []]) .no, .mk (some 3) none (.alloc 25 [.st (.int .i64 0)])
  .no])
  (.seq
  (.seq
  (.ops
  [.mk (some 5) none (.mov (.t 0)) .no, .mk (some 6) none (.len true (.t 5)) .no, .mk (some 7) none (.bin .gtr (.t 6) (.c (.one (.st (.int .i64 4000)))))
  .no])
  (.cond (.t 7)
  (.seq
  (.ops
  [.mk (some 8) none
  (.build [.st (.str (ByteArray.mk (#[]))), .full []] [])
  .no, .mk none none (.store 2 (.t 2) (.t 8)) .no, .mk none none (.store 1 (.t 3) (.c (.one (.st (.int .i64 3)))))
  .no])
  .ret)
  .skip))
  (.seq
  (.ops
  [.mk (some 9) none (.makeFunc 26 [.t 2, .t 3]) .no, .mk none none .never .no])
  (.seq
  (.ops
  [.mk (some 10) none (.mov (.t 0)) .no, .mk (some 11) none
  (.build
  [.st (.str (ByteArray.mk (#[]))), .st (.int .i64 0)]
  [(0, 1, .t 10),
  (1, 1, .c (.one (.st (.int .i64 200))))])
  .no, .mk (some 12) none (.box 66 (.t 11)) .no, .mk (some 4) none (.mov (.t 12)) .no])
  (.seq
  (.ops
  [.mk (some 13) none (.mov (.t 4)) .no, .mk (some 14) none (.callS 27 [.t 13]) .no, .mk none none (.store 2 (.t 2) (.t 14)) .no])
  (.seq
  (.seq
  (.ops
  [.mk (some 15) none (.mov (.t 4)) .no, .mk (some 16) none (.nilCheck (.t 15)) .no, .mk (some 17) none (.fieldAddr 0 (.t 16)) .no, .mk (some 18) none (.load false 1 (.t 17)) .no, .mk (some 19) none (.bin .neq (.t 18) (.c (.one (.st (.str (ByteArray.mk (#[])))))))
  .no])
  (.cond (.t 19)
  (.ops
  [.mk (some 20) none
  (.iface 62 (.c (.one (.st (.int .i64 12)))))
  .no, .mk none none (.pan (.t 20)) .no])
  .skip))
  (.seq
  (.ops
  [.mk (some 21) none (.load true 2 (.t 2)) .no, .mk none none (.store 2 (.t 2) (.t 21)) .no, .mk none none (.store 1 (.t 3) (.c (.one (.st (.int .i64 0)))))
  .no])
  .ret)))))))
theorem tr_term_Parse : trCode Try.prog 22 [14] (Try.f7.body.getD .skip) = some ir_term_Parse := by kernel_rfl
end Go.Proofs.Ytohgkbgpcnmdpaa

namespace Go.Proofs.Ytohgkbgpcnmdpaa
open Go
set_option linter.unusedVariables false
def tailS (s : ByteArray) (i : Nat) : ByteArray := s.extract i s.size
theorem tail_size (s : ByteArray) (i : Nat) : (tailS s i).size = s.size - i := by
  unfold tailS
  rw [ByteArray.size_extract]
  omega
theorem tail_zero (s : ByteArray) : tailS s 0 = s := by
  unfold tailS
  rw [ByteArray.extract_zero_size]
theorem byteN_tail {s : ByteArray} {i k : Nat} (h : i + k < s.size) : byteN (tailS s i) k = byteAt s (i + k) := by
  unfold byteN byteAt tailS
  rw [ByteArray.data_extract, Array.toList_extract]
  simp only [List.getD_eq_getElem?_getD]
  congr 3
  rw [List.extract_eq_take_drop, List.getElem?_take_of_lt (by omega), List.getElem?_drop]
theorem tail_take {s : ByteArray} {i n : Nat} (h : i + n ≤ s.size) : (tailS s i).extract 0 n = s.extract i (i + n) := by
  unfold tailS
  rw [ByteArray.extract_extract]
  congr 1
  omega
theorem tail_drop {s : ByteArray} {i n : Nat} (h : i + n ≤ s.size) : (tailS s i).extract n (tailS s i).size = tailS s (i + n) := by
  rw [tail_size]
  unfold tailS
  rw [ByteArray.extract_extract]
  congr 1
  omega
def lend (s : ByteArray) : Nat → Nat → Nat
  | 0, i => i
  | k + 1, i => if letterI (byteAt s i) = true then lend s k (i + 1) else i
def lendA (s : ByteArray) (i : Nat) : Nat := lend s (s.size - i) i
theorem lendA_on {s : ByteArray} {i : Nat} (h : i < s.size) (hl : letterI (byteAt s i) = true) : lendA s i = lendA s (i + 1) := by
  unfold lendA
  obtain ⟨k, hk⟩ : ∃ k, s.size - i = k + 1 := ⟨s.size - i - 1, by omega⟩
  rw [hk, show s.size - (i + 1) = k by omega, lend, if_pos hl]
theorem lendA_stop {s : ByteArray} {i : Nat} (h : i < s.size) (hl : ¬ letterI (byteAt s i) = true) : lendA s i = i := by
  unfold lendA
  obtain ⟨k, hk⟩ : ∃ k, s.size - i = k + 1 := ⟨s.size - i - 1, by omega⟩
  rw [hk, lend, if_neg hl]
theorem lendA_end {s : ByteArray} {i : Nat} (h : s.size ≤ i) : lendA s i = i := by
  unfold lendA
  rw [show s.size - i = 0 by omega]
  rfl
theorem lend_le (s : ByteArray) : ∀ k i : Nat, i ≤ lend s k i ∧ lend s k i ≤ i + k
  | 0, i => ⟨Nat.le_refl _, Nat.le_refl _⟩
  | k + 1, i => by
    rw [lend]
    split
    · have := lend_le s k (i + 1)
      omega
    · omega
theorem lendA_le {s : ByteArray} {i : Nat} (h : i ≤ s.size) : i ≤ lendA s i ∧ lendA s i ≤ s.size := by
  have := lend_le s (s.size - i) i
  unfold lendA
  omega
structure Rd where
  t : Tm
  i : Nat
  k : Nat
  e : Int
mutual
def rd (s : ByteArray) : Nat → Nat → Nat → Rd
  | 0, i, k => ⟨.mk ⟨#[]⟩ [], i, k, 99⟩
  | f + 1, i, k =>
    if lendA s i = i then ⟨.mk ⟨#[]⟩ [], i, k, if i = s.size then 13 else 12⟩
    else if nameOk (s.extract i (lendA s i)) = true then
      if 200 < k + 1 then ⟨.mk (s.extract i (lendA s i)) [], lendA s i, k + 1, 3⟩
      else if lendA s i = s.size ∨ byteAt s (lendA s i) ≠ 40 then ⟨.mk (s.extract i (lendA s i)) [], lendA s i, k + 1, 0⟩
      else if isVar (s.extract i (lendA s i)) = true then ⟨.mk (s.extract i (lendA s i)) [], lendA s i, k + 1, 2⟩
      else rdA s f (s.extract i (lendA s i)) [] (lendA s i) (k + 1)
    else ⟨.mk (s.extract i (lendA s i)) [], lendA s i, k, 1⟩
def rdA (s : ByteArray) : Nat → ByteArray → List Tm → Nat → Nat → Rd
  | 0, n, acc, i, k => ⟨.mk ⟨#[]⟩ [], i, k, 99⟩
  | f + 1, n, acc, i, k =>
    if (rd s f (i + 1) k).e = 0 then
      if (rd s f (i + 1) k).i = s.size then ⟨.mk n (acc ++ [(rd s f (i + 1) k).t]), (rd s f (i + 1) k).i, (rd s f (i + 1) k).k, 13⟩
      else if byteAt s (rd s f (i + 1) k).i = 41 then ⟨.mk n (acc ++ [(rd s f (i + 1) k).t]), (rd s f (i + 1) k).i + 1, (rd s f (i + 1) k).k, 0⟩
      else if byteAt s (rd s f (i + 1) k).i = 44 then rdA s f n (acc ++ [(rd s f (i + 1) k).t]) (rd s f (i + 1) k).i (rd s f (i + 1) k).k
      else ⟨.mk n (acc ++ [(rd s f (i + 1) k).t]), (rd s f (i + 1) k).i, (rd s f (i + 1) k).k, 12⟩
    else ⟨.mk n acc, (rd s f (i + 1) k).i, (rd s f (i + 1) k).k, (rd s f (i + 1) k).e⟩
end
structure RdOk (s : ByteArray) (i k : Nat) (r : Rd) : Prop where
  le : i ≤ r.i
  in_ : r.i ≤ s.size
  knots : k ≤ r.k
  most : r.k ≤ 201
  ok : r.e = 0 → i < r.i ∧ r.k ≤ 200 ∧ k < r.k ∧ r.t.size ≤ r.k - k
  err : 0 ≤ r.e ∧ r.e ≤ 13
structure RdOkA (s : ByteArray) (acc : List Tm) (i k : Nat) (r : Rd) : Prop where
  le : i ≤ r.i
  in_ : r.i ≤ s.size
  knots : k ≤ r.k
  most : r.k ≤ 201
  ok : r.e = 0 → i < r.i ∧ r.k ≤ 200 ∧ k < r.k ∧ r.t.size ≤ (r.k - k) + (1 + Tm.sizes acc)
  err : 0 ≤ r.e ∧ r.e ≤ 13
theorem sizes_snoc (xs : List Tm) (a : Tm) : Tm.sizes (xs ++ [a]) = Tm.sizes xs + a.size := by
  rw [Tm.sizes_append]
  simp [Tm.sizes]
mutual
theorem rd_ok (s : ByteArray) : ∀ f i k : Nat, i ≤ s.size → k ≤ 200 → 2 * (s.size - i) < f → RdOk s i k (rd s f i k)
  | 0, i, k, _, _, h => absurd h (Nat.not_lt_zero _)
  | f + 1, i, k, hi, hk, hf => by
    obtain ⟨l1, l2⟩ := lendA_le hi
    rw [rd]
    by_cases h0 : lendA s i = i
    · rw [if_pos h0]
      by_cases h1 : i = s.size
      · rw [if_pos h1]
        exact ⟨Nat.le_refl _, hi, Nat.le_refl _, by show k ≤ 201; omega, fun h => absurd h (by show ¬ (13 : Int) = 0; decide), by show (0 : Int) ≤ 13 ∧ (13 : Int) ≤ 13; decide⟩
      · rw [if_neg h1]
        exact ⟨Nat.le_refl _, hi, Nat.le_refl _, by show k ≤ 201; omega, fun h => absurd h (by show ¬ (12 : Int) = 0; decide), by show (0 : Int) ≤ 12 ∧ (12 : Int) ≤ 13; decide⟩
    · rw [if_neg h0]
      by_cases h1 : nameOk (s.extract i (lendA s i)) = true
      · rw [if_pos h1]
        by_cases h2 : 200 < k + 1
        · rw [if_pos h2]
          exact ⟨l1, l2, Nat.le_succ _, by show k + 1 ≤ 201; omega, fun h => absurd h (by show ¬ (3 : Int) = 0; decide), by show (0 : Int) ≤ 3 ∧ (3 : Int) ≤ 13; decide⟩
        · rw [if_neg h2]
          by_cases h3 : lendA s i = s.size ∨ byteAt s (lendA s i) ≠ 40
          · rw [if_pos h3]
            exact ⟨l1, l2, Nat.le_succ _, by show k + 1 ≤ 201; omega, fun _ => ⟨by show i < lendA s i; omega, by show k + 1 ≤ 200; omega, Nat.lt_succ_self _, by show (Tm.mk _ []).size ≤ k + 1 - k; simp [Tm.size, Tm.sizes]⟩, by show (0 : Int) ≤ 0 ∧ (0 : Int) ≤ 13; decide⟩
          · rw [if_neg h3]
            by_cases h4 : isVar (s.extract i (lendA s i)) = true
            · rw [if_pos h4]
              exact ⟨l1, l2, Nat.le_succ _, by show k + 1 ≤ 201; omega, fun h => absurd h (by show ¬ (2 : Int) = 0; decide), by show (0 : Int) ≤ 2 ∧ (2 : Int) ≤ 13; decide⟩
            · rw [if_neg h4]
              have hlt : lendA s i < s.size := by
                have : lendA s i ≠ s.size := fun h => h3 (.inl h)
                omega
              have := rdA_ok s f (s.extract i (lendA s i)) [] (lendA s i) (k + 1) hlt (by omega) (by omega)
              refine ⟨Nat.le_trans l1 this.le, this.in_, by have := this.knots; omega, this.most, fun h => ?_, this.err⟩
              obtain ⟨q1, q2, q3, q4⟩ := this.ok h
              simp only [Tm.sizes] at q4
              exact ⟨by omega, q2, by omega, by omega⟩
      · rw [if_neg h1]
        exact ⟨l1, l2, Nat.le_refl _, by show k ≤ 201; omega, fun h => absurd h (by show ¬ (1 : Int) = 0; decide), by show (0 : Int) ≤ 1 ∧ (1 : Int) ≤ 13; decide⟩
theorem rdA_ok (s : ByteArray) : ∀ (f : Nat) (n : ByteArray) (acc : List Tm) (i k : Nat), i < s.size → k ≤ 200 → 2 * (s.size - i) ≤ f → RdOkA s acc i k (rdA s f n acc i k)
  | 0, n, acc, i, k, hi, _, h => by omega
  | f + 1, n, acc, i, k, hi, hk, hf => by
    have h := rd_ok s f (i + 1) k (by omega) hk (by omega)
    have hle := h.le
    have hin := h.in_
    have hkn := h.knots
    have hmo := h.most
    rw [rdA]
    generalize rd s f (i + 1) k = r at *
    by_cases h0 : r.e = 0
    · obtain ⟨o1, o2, o3, o4⟩ := h.ok h0
      rw [if_pos h0]
      by_cases h1 : r.i = s.size
      · rw [if_pos h1]
        exact ⟨by show i ≤ r.i; omega, hin, hkn, hmo, fun h => absurd h (by show ¬ (13 : Int) = 0; decide), by show (0 : Int) ≤ 13 ∧ (13 : Int) ≤ 13; decide⟩
      · rw [if_neg h1]
        by_cases h2 : byteAt s r.i = 41
        · rw [if_pos h2]
          refine ⟨by show i ≤ r.i + 1; omega, by show r.i + 1 ≤ s.size; omega, hkn, hmo, fun _ => ⟨by show i < r.i + 1; omega, o2, o3, ?_⟩, by show (0 : Int) ≤ 0 ∧ (0 : Int) ≤ 13; decide⟩
          show 1 + Tm.sizes (acc ++ [r.t]) ≤ _
          rw [sizes_snoc]
          show _ ≤ r.k - k + _
          omega
        · rw [if_neg h2]
          by_cases h3 : byteAt s r.i = 44
          · rw [if_pos h3]
            have := rdA_ok s f n (acc ++ [r.t]) r.i r.k (by omega) o2 (by omega)
            refine ⟨by have := this.le; omega, this.in_, by have := this.knots; omega, this.most, fun h => ?_, this.err⟩
            obtain ⟨q1, q2, q3, q4⟩ := this.ok h
            rw [sizes_snoc] at q4
            exact ⟨by omega, q2, by omega, by omega⟩
          · rw [if_neg h3]
            exact ⟨by show i ≤ r.i; omega, hin, hkn, hmo, fun h => absurd h (by show ¬ (12 : Int) = 0; decide), by show (0 : Int) ≤ 12 ∧ (12 : Int) ≤ 13; decide⟩
    · rw [if_neg h0]
      exact ⟨by show i ≤ r.i; omega, hin, hkn, hmo, fun h => absurd h h0, h.err⟩
end
def rdS (s : ByteArray) : Rd := rd s (2 * s.size + 1) 0 0
def readOf (s : ByteArray) : Tm × Int := if 4000 < s.size then (.mk ⟨#[]⟩ [], 3) else if (rdS s).e = 0 then (if (rdS s).i < s.size then (.mk ⟨#[]⟩ [], 12) else ((rdS s).t, 0)) else (.mk ⟨#[]⟩ [], (rdS s).e)
end Go.Proofs.Ytohgkbgpcnmdpaa

namespace Go.Proofs.Ytohgkbgpcnmdpaa
open Go Go.RowKit
set_option linter.unusedVariables false
set_option linter.unusedSimpArgs false
set_option maxHeartbeats 1000000
theorem IWP.cut {P : Program} {C : Ctx} {mu : List Nat} {Q : AX → AS → Prop} {s : AS} {x : IR} (id : Nat) (M : AS → Prop) (h1 : IWP P C mu x (fun e s => e = .exit id ∧ M s) s) (h2 : ∀ s, M s → Q (.exit id) s) : IWP P C mu x Q s :=
  h1.mono fun e s h => by
    obtain ⟨rfl, hm⟩ := h
    exact h2 s hm
abbrev boxT0r : ABlk := .box 24 [.st (.str ⟨#[]⟩), .full []]
theorem rd_zero {s : ByteArray} {f i k : Nat} (h0 : lendA s i = i) : rd s (f + 1) i k = ⟨.mk ⟨#[]⟩ [], i, k, if i = s.size then 13 else 12⟩ := by rw [rd, if_pos h0]
theorem rd_name {s : ByteArray} {f i k : Nat} (h0 : ¬ lendA s i = i) (h1 : ¬ nameOk (s.extract i (lendA s i)) = true) : rd s (f + 1) i k = ⟨.mk (s.extract i (lendA s i)) [], lendA s i, k, 1⟩ := by rw [rd, if_neg h0, if_neg h1]
theorem rd_limit {s : ByteArray} {f i k : Nat} (h0 : ¬ lendA s i = i) (h1 : nameOk (s.extract i (lendA s i)) = true) (h2 : 200 < k + 1) : rd s (f + 1) i k = ⟨.mk (s.extract i (lendA s i)) [], lendA s i, k + 1, 3⟩ := by rw [rd, if_neg h0, if_pos h1, if_pos h2]
theorem rd_leaf {s : ByteArray} {f i k : Nat} (h0 : ¬ lendA s i = i) (h1 : nameOk (s.extract i (lendA s i)) = true) (h2 : ¬ 200 < k + 1) (h3 : lendA s i = s.size ∨ byteAt s (lendA s i) ≠ 40) : rd s (f + 1) i k = ⟨.mk (s.extract i (lendA s i)) [], lendA s i, k + 1, 0⟩ := by rw [rd, if_neg h0, if_pos h1, if_neg h2, if_pos h3]
theorem rd_form {s : ByteArray} {f i k : Nat} (h0 : ¬ lendA s i = i) (h1 : nameOk (s.extract i (lendA s i)) = true) (h2 : ¬ 200 < k + 1) (h3 : ¬ (lendA s i = s.size ∨ byteAt s (lendA s i) ≠ 40)) (h4 : isVar (s.extract i (lendA s i)) = true) : rd s (f + 1) i k = ⟨.mk (s.extract i (lendA s i)) [], lendA s i, k + 1, 2⟩ := by rw [rd, if_neg h0, if_pos h1, if_neg h2, if_neg h3, if_pos h4]
theorem rd_args {s : ByteArray} {f i k : Nat} (h0 : ¬ lendA s i = i) (h1 : nameOk (s.extract i (lendA s i)) = true) (h2 : ¬ 200 < k + 1) (h3 : ¬ (lendA s i = s.size ∨ byteAt s (lendA s i) ≠ 40)) (h4 : ¬ isVar (s.extract i (lendA s i)) = true) : rd s (f + 1) i k = rdA s f (s.extract i (lendA s i)) [] (lendA s i) (k + 1) := by rw [rd, if_neg h0, if_pos h1, if_neg h2, if_neg h3, if_neg h4]
theorem rdA_bad {s : ByteArray} {f : Nat} {n : ByteArray} {acc : List Tm} {i k : Nat} (h : ¬ (rd s f (i + 1) k).e = 0) : rdA s (f + 1) n acc i k = ⟨.mk n acc, (rd s f (i + 1) k).i, (rd s f (i + 1) k).k, (rd s f (i + 1) k).e⟩ := by rw [rdA, if_neg h]
theorem rdA_short {s : ByteArray} {f : Nat} {n : ByteArray} {acc : List Tm} {i k : Nat} (h : (rd s f (i + 1) k).e = 0) (h1 : (rd s f (i + 1) k).i = s.size) : rdA s (f + 1) n acc i k = ⟨.mk n (acc ++ [(rd s f (i + 1) k).t]), (rd s f (i + 1) k).i, (rd s f (i + 1) k).k, 13⟩ := by rw [rdA, if_pos h, if_pos h1]
theorem rdA_close {s : ByteArray} {f : Nat} {n : ByteArray} {acc : List Tm} {i k : Nat} (h : (rd s f (i + 1) k).e = 0) (h1 : ¬ (rd s f (i + 1) k).i = s.size) (h2 : byteAt s (rd s f (i + 1) k).i = 41) : rdA s (f + 1) n acc i k = ⟨.mk n (acc ++ [(rd s f (i + 1) k).t]), (rd s f (i + 1) k).i + 1, (rd s f (i + 1) k).k, 0⟩ := by rw [rdA, if_pos h, if_neg h1, if_pos h2]
theorem rdA_on {s : ByteArray} {f : Nat} {n : ByteArray} {acc : List Tm} {i k : Nat} (h : (rd s f (i + 1) k).e = 0) (h1 : ¬ (rd s f (i + 1) k).i = s.size) (h2 : ¬ byteAt s (rd s f (i + 1) k).i = 41) (h3 : byteAt s (rd s f (i + 1) k).i = 44) : rdA s (f + 1) n acc i k = rdA s f n (acc ++ [(rd s f (i + 1) k).t]) (rd s f (i + 1) k).i (rd s f (i + 1) k).k := by rw [rdA, if_pos h, if_neg h1, if_neg h2, if_pos h3]
theorem rdA_word {s : ByteArray} {f : Nat} {n : ByteArray} {acc : List Tm} {i k : Nat} (h : (rd s f (i + 1) k).e = 0) (h1 : ¬ (rd s f (i + 1) k).i = s.size) (h2 : ¬ byteAt s (rd s f (i + 1) k).i = 41) (h3 : ¬ byteAt s (rd s f (i + 1) k).i = 44) : rdA s (f + 1) n acc i k = ⟨.mk n (acc ++ [(rd s f (i + 1) k).t]), (rd s f (i + 1) k).i, (rd s f (i + 1) k).k, 12⟩ := by rw [rdA, if_pos h, if_neg h1, if_neg h2, if_neg h3]
theorem encT_snoc (acc : List Tm) (a : Tm) : (acc ++ [a]).map encT = acc.map encT ++ [[.str a.name, .list (a.args.map encT)]] := by
  rw [List.map_append, List.map_cons, List.map_nil, encT_eq a]
def readV (r : Tm × Int) : AV := .tup [aTm r.1, aInt r.2]
end Go.Proofs.Ytohgkbgpcnmdpaa

namespace Go.Proofs.Ytohgkbgpcnmdpaa
open Go Go.RowKit
set_option linter.unusedVariables false
set_option maxHeartbeats 400000
theorem Ghost.kill {C : Ctx} {s : AS} (id : Nat) {ty : TypeId} {xs : List AC} (hS : s.S id = some (.box ty xs)) : Ghost C s (s.set id (.dead 1 0)) := fun a w ⟨σ, ι, R⟩ => by
  have hb := R.blk _ _ hS
  cases hb with
  | @box _ _ g vs h1 h2 h3 h4 h5 =>
    obtain ⟨hu, R'⟩ := R.turn (w' := w) hS (.dead 1 0) (ι id) (σ' := σ) (fun _ _ h => h) (fun _ _ _ => rfl) R.fit (Nat.le_refl _) (fun _ => ⟨rfl, rfl⟩) ⟨rfl, rfl, rfl⟩ (Nat.le_refl _) (fun _ _ _ => rfl) (fun g h => .inl h)
      (fun hu => .dead fun g' hg' => by rw [h1] at hg'; cases hg'; exact (Array.getElem?_eq_some_iff.1 h3).1)
    exact ⟨σ, _, R'⟩
theorem finP_at {C : Ctx} {v : Value} {s : AS} {S : AStore} {a0 : Nat} (hS : Clean S) (ha : 1000 ≤ a0) (h3 : s.S a0 = some (.dead 1 0)) (h4 : ∀ i, 1000 ≤ i → i ≠ a0 → s.S i = S i) : FinP C v (updE S a0 (some (.dead 1 0))) (.pan v) s :=
  ⟨rfl, _, Ghost.low (highs_is hS rfl h3 h4), lowS_is hS ha h3 h4, clean_upd hS ha rfl⟩
theorem finP_box {C : Ctx} {v : Value} {s : AS} {S : AStore} {a0 : Nat} {ty : TypeId} {xs : List AC} (hS : Clean S) (ha : 1000 ≤ a0) (h3 : s.S a0 = some (.box ty xs)) (h4 : ∀ i, 1000 ≤ i → i ≠ a0 → s.S i = S i) : FinP C v (updE S a0 (some (.dead 1 0))) (.pan v) s := by
  obtain ⟨h1, s2, hg, h5, h6⟩ := finP_at (C := C) (v := v) (s := s.set a0 (.dead 1 0)) hS ha (updE_same _ _ _) (fun i hi hne => (updE_ne _ hne _).trans (h4 i hi hne))
  exact ⟨h1, s2, (Ghost.kill a0 h3).trans hg, h5, h6⟩
end Go.Proofs.Ytohgkbgpcnmdpaa
