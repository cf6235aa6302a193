/-
  Part 5 of the texts. Conditions: none.
-/
import Derived.Test.YtcgnojefbalbbaaDoorPrP4
namespace Go.Proofs.YtcgnojefbalbbaaDoor
open Go Go.RowKit
set_option linter.unusedVariables false
set_option maxHeartbeats 400000
def JB (hints : List Nat) (ks : List Ins) : Nat → Nat → Nat
 | 0, t => t
 | f + 1, t => match hints.find? fun m => m / 10000 == 1000 + t with
  | some m => m % 10000
  | none => match ks.find? fun k => k.dst == some t with
   | some k => match k.kd with
    | .mov (.t u) => JB hints ks f u
    | .fieldAddr _ (.t u) => JB hints ks f u
    | .nilCheck (.t u) => JB hints ks f u
    | _ => t
   | none => t
def L_ (ops : List Oper) (ks : List Ins) : List (Nat × Nat) :=
 (List.range ops.length).flatMap fun i => (List.range i).filterMap fun j => match ks[j]?, ks[i]? with
  | some x, some y => if x.indep y || E5 ops ops.length j i then none else some (j, i)
  | _, _ => none
def I4 (hints : List Nat) (ks : List Ins) (i : Nat) : Option Nat := match ks[i]? with
 | some k => match k.kd with
  | .indexAddr _ (.t u) _ => (hints.find? fun m => m / 10000 == 1000 + u).map (· % 10000)
  | .indexAddr _ _ _ => none
  | kd => match kd.ptrOpd with
   | some (.t u) => some (JB hints ks ks.length u)
   | _ => none
 | none => none
def Pp (hints : List Nat) (ks : List Ins) (conf : List (Nat × Nat)) (i : Nat) : Tag :=
 if conf.any fun p => p.1 == i || p.2 == i then match ks[i]? with
  | some k => match k.kd with
   | .load _ _ _ | .store _ _ _ | .fieldAddr _ _ | .nilCheck _ | .indexAddr _ _ _ => match I4 hints ks i with
    | some id => .onb id
    | none => .no
   | .callS _ _ | .callV _ _ | .callN _ _ | .append _ _ _ _ _ _ => .keeps (conf.filterMap fun p => if p.1 == i then I4 hints ks p.2 else if p.2 == i then I4 hints ks p.1 else none)
   | _ => .no
  | none => .no
 else .no
def M5 (mu : List Nat) (ops : List Oper) (ks : List Ins) : List Ins := L4 (Pp (mu.filter fun m => 10000000 ≤ m) ks (L_ ops ks)) 0 ks
def BS (P : Program) (n : Nat) (mu : List Nat) : Code → Option IR
 | .skip => some .skip
 | .region _ ops draw => match HO P n mu ops.toList ops.toList with
  | some ks => if draw then if P.follows .mixedOrders && Iu ops.toList ks then some (.ops ks) else if P.follows .mixedOrders && Iu ops.toList (M5 mu ops.toList ks) then some (.ops (M5 mu ops.toList ks)) else none else some (.ops ks)
  | none => none
 | .seq x y => match BS P n mu x, BS P n mu y with
  | some x', some y' => some (.seq x' y')
  | _, _ => none
 | .cond c x y => match AL n c, BS P n mu x, BS P n mu y with
  | some c', some x', some y' => some (.cond c' x' y')
  | _, _, _ => none
 | .block id x => (BS P n mu x).map (.block id)
 | .loop x => (BS P n mu x).map .loop
 | .rangeFunc g ps x y => match AL n g, BS P n mu x, BS P n mu y with
  | some g', some x', some y' => if ps.toList.all (fun p => decide (p < n)) then some (.rangeF g' ps.toList x' y') else none
  | _, _, _ => none
 | .exit id => some (.exit id)
 | .ret => some .ret
 | _ => none
inductive AX where
 | normal
 | exit (id : Nat)
 | ret
 | pan (v : Value)
def Py (C : Ctx) (Q : AX → AS → Prop) : Exit → Act → World → Prop
 | .normal, a, w => ∃ s, Q .normal s ∧ BG C s a w
 | .exit id, a, w => ∃ s, Q (.exit id) s ∧ BG C s a w
 | .ret, a, w => ∃ s, Q .ret s ∧ BG C s a w
 | .panic ch, a, w => ∃ s v, (Q (.pan v) s ∧ ch = [{ v := v, recovered := false }]) ∧ BG C s a w
 | _, _, _ => False
def IWP (P : Program) (C : Ctx) (mu : List Nat) (x : IR) (Q : AX → AS → Prop) (s : AS) : Prop :=
 ∀ c, BS P C.n mu c = some x → ∀ a w, BG C s a w → c.wpIn (fen C.ro) 0 P (Py C Q) a w
def As (C : Ctx) (s s' : AS) : Prop := ∀ a w, BG C s a w → BG C s' a w
def AX.then (K : AS → Prop) (Q : AX → AS → Prop) : AX → AS → Prop
 | .normal, s => K s
 | e, s => Q e s
def AX.inBlock (id : Nat) (Q : AX → AS → Prop) : AX → AS → Prop
 | .exit id', s => if id' = id then Q .normal s else Q (.exit id') s
 | e, s => Q e s
section
variable {P : Program} {C : Ctx} {mu : List Nat} {Q Q' : AX → AS → Prop} {s s' : AS} {x y : IR}
theorem IWP.mono (h : IWP P C mu x Q s) (hq : ∀ e s, Q e s → Q' e s) : IWP P C mu x Q' s := fun c hc a w hH => wpIn_mono (h c hc a w hH) fun e a' w' he => by
 cases e <;> first | exact he | (obtain ⟨s1, v, h1, h2⟩ := he; exact ⟨s1, v, ⟨hq _ _ h1.1, h1.2⟩, h2⟩) | (obtain ⟨s1, h1, h2⟩ := he; exact ⟨s1, hq _ _ h1, h2⟩)
theorem IWP.ghost (hg : As C s s') (h : IWP P C mu x Q s') : IWP P C mu x Q s := fun c hc a w hH => h c hc a w (hg a w hH)
theorem As.refl (C : Ctx) (s : AS) : As C s s := fun _ _ h => h
theorem As.trans {s1 s2 s3 : AS} (h : As C s1 s2) (k : As C s2 s3) : As C s1 s3 := fun a w hH => k a w (h a w hH)
theorem IWP.skip (h : Q .normal s) : IWP P C mu .skip Q s := fun c hc a w hH => by
 cases c <;> simp only [BS] at hc <;> first | exact wpIn_skip ⟨s, h, hH⟩ | (exfalso; revert hc; (repeat' split) <;> simp)
theorem IWP.ops {l : List Ins} (h : Run P l s (Q .normal)) : IWP P C mu (.ops l) Q s := fun c hc a w hH => by
 cases c <;> simp only [BS] at hc
 case region id ops draw =>
  split at hc
  ·rename_i ks e1
   obtain ⟨σ, ι, R⟩ := hH
   cases draw with
   | true =>
    simp only [if_true] at hc
    split at hc
    ·rename_i h1
     cases hc
     simp only [Bool.and_eq_true] at h1
     exact Hm h1.1 e1 (KM.refl _) h1.2 R h fun s' a' w' hs hh => ⟨s', hs, hh⟩
    ·split at hc
     ·rename_i h1
      cases hc
      simp only [Bool.and_eq_true] at h1
      exact Hm h1.1 e1 (Jw _ 0 _) h1.2 R h fun s' a' w' hs hh => ⟨s', hs, hh⟩
     ·cases hc
   | false =>
    simp only [Bool.false_eq_true, if_false, Option.some.injEq, IR.ops.injEq] at hc
    subst hc
    exact Kg e1 R h fun s' a' w' hs hh => ⟨s', hs, hh⟩
  ·cases hc
 all_goals (exfalso; revert hc; (repeat' split) <;> simp)
def Kb (P : Program) (C : Ctx) (mu : List Nat) (y : IR) (Q : AX → AS → Prop) : AX → AS → Prop := AX.then (IWP P C mu y Q) Q
theorem GI (h : IWP P C mu y Q s) : Kb P C mu y Q .normal s := h
theorem MD {id : Nat} (h : Q (.exit id) s) : Kb P C mu y Q (.exit id) s := h
theorem OA (h : Q .ret s) : Kb P C mu y Q .ret s := h
theorem HB {id : Nat} (h : Q .normal s) : AX.inBlock id Q .normal s := h
theorem JL {id : Nat} (h : Q .normal s) : AX.inBlock id Q (.exit id) s := by simp only [AX.inBlock, if_true]; exact h
theorem Io {id id' : Nat} (hne : id' ≠ id) (h : Q (.exit id') s) : AX.inBlock id Q (.exit id') s := by simp only [AX.inBlock, hne, if_false]; exact h
theorem Kr {id : Nat} (h : Q .ret s) : AX.inBlock id Q .ret s := h
theorem AH {K : AS → Prop} (h : K s) : AX.then K Q .normal s := h
theorem Mf {K : AS → Prop} {id : Nat} (h : Q (.exit id) s) : AX.then K Q (.exit id) s := h
theorem Ng {K : AS → Prop} (h : Q .ret s) : AX.then K Q .ret s := h
theorem IWP.opsK {l : List Ins} (h : ∀ K : AS → Prop, (∀ s, Q .normal s → K s) → Run P l s K) : IWP P C mu (.ops l) Q s := IWP.ops (h _ fun _ h => h)
theorem IWP.seq (h : IWP P C mu x (Kb P C mu y Q) s) : IWP P C mu (.seq x y) Q s := fun c hc a w hH => by
 cases c <;> simp only [BS] at hc
 case seq c1 c2 =>
  split at hc
  ·rename_i x' y' e1 e2
   cases hc
   refine wpIn_seq (wpIn_mono (h c1 e1 a w hH) fun e a' w' he => ?_)
   cases e <;> first | exact he | (obtain ⟨s1, h1, h2⟩ := he; exact h1 c2 e2 a' w' h2)
  ·cases hc
 all_goals (exfalso; revert hc; (repeat' split) <;> simp)
theorem IWP.cond {c0 : Opd} (h : match s.ev c0 with | .one (.st (.bool b)) => (b = true → IWP P C mu x Q s) ∧ (b = false → IWP P C mu y Q s) | .one .ubool => IWP P C mu x Q s ∧ IWP P C mu y Q s | _ => False) : IWP P C mu (.cond c0 x y) Q s := fun c hc a w hH => by
 cases c <;> simp only [BS] at hc
 case cond cc c1 c2 =>
  split at hc
  ·rename_i c' x' y' e0 e1 e2
   cases hc
   split at h
   ·rename_i b eb
    obtain ⟨σ, ι, R⟩ := hH
    have rb := R.ev e0
    rw [eb] at rb
    exact wpIn_cond_split (CS rb) (fun ht => h.1 ht c1 e1 a w ⟨σ, ι, R⟩) (fun ht => h.2 ht c2 e2 a w ⟨σ, ι, R⟩)
   ·rename_i eb
    obtain ⟨σ, ι, R⟩ := hH
    have rb := R.ev e0
    rw [eb] at rb
    obtain ⟨b, hb⟩ := LO rb
    exact wpIn_cond_split hb (fun _ => h.1 c1 e1 a w ⟨σ, ι, R⟩) (fun _ => h.2 c2 e2 a w ⟨σ, ι, R⟩)
   ·exact h.elim
  ·cases hc
 all_goals (exfalso; revert hc; (repeat' split) <;> simp)
theorem IWP.block {id : Nat} (h : IWP P C mu x (AX.inBlock id Q) s) : IWP P C mu (.block id x) Q s := fun c hc a w hH => by
 cases c <;> simp only [BS] at hc
 case block id' c1 =>
  rw [Option.map_eq_some_iff] at hc
  obtain ⟨x', e1, e2⟩ := hc
  cases e2
  refine wpIn_block (wpIn_mono (h c1 e1 a w hH) fun e a' w' he => ?_)
  cases e <;> first | exact he | skip
  case exit id2 =>
   obtain ⟨s1, h1, h2⟩ := he
   simp only [AX.inBlock] at h1
   simp only [Exit.inBlock]
   by_cases e : id2 = id
   ·rw [if_pos e] at h1 ⊢
    exact ⟨s1, h1, h2⟩
   ·rw [if_neg e] at h1 ⊢
    exact ⟨s1, h1, h2⟩
 all_goals (exfalso; revert hc; (repeat' split) <;> simp)
theorem IWP.exit {id : Nat} (h : Q (.exit id) s) : IWP P C mu (.exit id) Q s := fun c hc a w hH => by
 cases c <;> simp only [BS] at hc
 case exit id' =>
  cases hc
  exact wpIn_exit ⟨s, h, hH⟩
 all_goals (exfalso; revert hc; (repeat' split) <;> simp)
theorem IWP.ret (h : Q .ret s) : IWP P C mu .ret Q s := fun c hc a w hH => by
 cases c <;> simp only [BS] at hc
 case ret => exact wpIn_ret ⟨s, h, hH⟩
 all_goals (exfalso; revert hc; (repeat' split) <;> simp)
theorem IWP.loop (Inv : Nat → AS → Prop) (m0 : Nat) (h0 : Inv m0 s) (h : ∀ m s, Inv m s → IWP P C mu x (AX.then (fun s' => ∃ m', m' < m ∧ Inv m' s') Q) s) : IWP P C mu (.loop x) Q s := fun c hc a w hH => by
 cases c <;> simp only [BS] at hc
 case loop c1 =>
  rw [Option.map_eq_some_iff] at hc
  obtain ⟨x', e1, e2⟩ := hc
  cases e2
  have least : ∀ a w, (∃ m s, Inv m s ∧ BG C s a w) → ∃ m, (∃ s, Inv m s ∧ BG C s a w) ∧ ∀ m', (∃ s, Inv m' s ∧ BG C s a w) → m ≤ m' := fun a w ⟨m, s, h1, h2⟩ => by
   have key : ∀ n m, m ≤ n → (∃ s, Inv m s ∧ BG C s a w) → ∃ m, (∃ s, Inv m s ∧ BG C s a w) ∧ ∀ m', (∃ s, Inv m' s ∧ BG C s a w) → m ≤ m' := by
    intro n
    induction n with
    | zero => intro m hm hs; exact ⟨m, hs, fun m' _ => by omega⟩
    | succ n ih =>
     intro m hm hs
     by_cases hex : ∃ m', m' < m ∧ ∃ s, Inv m' s ∧ BG C s a w
     ·obtain ⟨m', hlt, hs'⟩ := hex
      exact ih m' (by omega) hs'
     ·refine ⟨m, hs, fun m' hs' => ?_⟩
      rcases Nat.lt_or_ge m' m with hlt | hge
      ·exact absurd ⟨m', hlt, hs'⟩ hex
      ·exact hge
   exact key m m (Nat.le_refl _) ⟨s, h1, h2⟩
  open Classical in
  refine wpIn_loop (fun a w => ∃ m s, Inv m s ∧ BG C s a w) (fun a w => if hx : ∃ m s, Inv m s ∧ BG C s a w then (least a w hx).choose else 0) ⟨m0, s, h0, hH⟩ fun a w hI => ?_
  obtain ⟨⟨s1, i1, i2⟩, hmin⟩ := (least a w hI).choose_spec
  refine wpIn_mono (h _ s1 i1 c1 e1 a w i2) fun e a' w' he => ?_
  cases e <;> first | exact he | skip
  case normal =>
   obtain ⟨s2, ⟨m', hlt, hinv⟩, hH2⟩ := he
   have hx' : ∃ m s, Inv m s ∧ BG C s a' w' := ⟨m', s2, hinv, hH2⟩
   refine ⟨hx', ?_⟩
   rw [dif_pos hx', dif_pos hI]
   have := (least a' w' hx').choose_spec.2 m' ⟨s2, hinv, hH2⟩
   omega
 all_goals (exfalso; revert hc; (repeat' split) <;> simp)
end
mutual
def SV.known : SV → Prop
 | .int k n => inR k n
 | .str b => b.size ≤ maxLen
 | .list xs => xs.length ≤ maxLen ∧ SV.knownLL xs
 | _ => True
def SV.knownLL : List (List SV) → Prop
 | [] => True
 | x :: xs => SV.knownL x ∧ SV.knownLL xs
def SV.knownL : List SV → Prop
 | [] => True
 | c :: cs => c.known ∧ SV.knownL cs
end
theorem Gy : ∀ {l : List SV}, SV.knownL l ↔ ∀ c ∈ l, c.known
 | [] => by simp [SV.knownL]
 | c :: cs => by simp [SV.knownL, Gy (l := cs)]
theorem GQ : ∀ {l : List (List SV)}, SV.knownLL l ↔ ∀ x ∈ l, SV.knownL x
 | [] => by simp [SV.knownLL]
 | c :: cs => by simp [SV.knownLL, GQ (l := cs)]
def AC.known (S : AA) : AC → Prop
 | .st c => c.known
 | .full xs => xs.length ≤ maxLen ∧ SV.knownLL xs
 | _ => True
def AV.known (S : AA) : AV → Prop
 | .one c => c.known S
 | .agg cs => ∀ c ∈ cs, c.known S
 | _ => True
theorem Ax.known {σ : Sto} {v : Value} {c : SV} (h : Ax σ v c) : c.known := by
 induction h with
 | int h => exact h
 | str h => exact h
 | @list p len cap b o w xs c h1 h2 h3 h4 h5 h6 hh h7 h8 ih =>
  refine ⟨by omega, GQ.2 fun x hx => Gy.2 fun y hy => ?_⟩
  obtain ⟨k, hk, rfl⟩ := List.getElem_of_mem hx
  obtain ⟨j, hj, rfl⟩ := List.getElem_of_mem hy
  exact ih k _ j _ (List.getElem?_eq_getElem hk) (List.getElem?_eq_getElem hj)
 | _ => trivial
theorem Am.known {σ : Sto} {S : AA} {ι : A0} {v : Value} {c : AC} (h : Am σ S ι v c) : c.known S := by
 cases h with
 | st h => exact h.known
 | full h => exact h.known
 | _ => trivial
theorem AT.known {σ : Sto} {S : AA} {ι : A0} {v : Value} {c : AV} (h : AT σ S ι v c) : c.known S := by
 cases h with
 | one h => exact h.known
 | agg h =>
  intro c hc
  obtain ⟨i, hi, rfl⟩ := List.getElem_of_mem hc
  obtain ⟨b, _, hb⟩ := h.get (List.getElem?_eq_getElem hi)
  exact hb.known
 | _ => trivial
theorem IWP.learn {P : Program} {C : Ctx} {mu : List Nat} {Q : AX → AS → Prop} {s : AS} {x : IR} (t : Nat) (ht : t < C.n) (h : (s.env t).known s.S → IWP P C mu x Q s) : IWP P C mu x Q s := fun c hc a w hH => by
 obtain ⟨σ, ι, R⟩ := hH
 exact h (R.env t ht).known c hc a w ⟨σ, ι, R⟩
inductive RV where
 | t (i : Nat)
 | cell (i : Nat) (g : Bool) (n : Nat)
def DG (P : Program) (n : Nat) : List ResultVar → Option (List RV)
 | [] => some []
 | .tmp t :: l => match DG P n l with
  | some r => if t < n then some (.t t :: r) else none
  | none => none
 | .cell t ty :: l => match DG P n l, Ja P ty with
  | some r, some (g, k) => if t < n then some (.cell t g k :: r) else none
  | _, _ => none
def AE (s : AS) : RV → Option AV
 | .t i => some (s.env i)
 | .cell i g n => match s.env i with
  | .one (.ptr id m k off) => match Bm s.S id m k with
   | some cs => if off + n ≤ cs.length then some (HW g ((cs.drop off).take n)) else none
   | none => none
  | _ => none
def AD (s : AS) : List RV → Option (List AV)
 | [] => some []
 | r :: l => match AE s r, AD s l with
  | some v, some vs => some (v :: vs)
  | _, _ => none
def AM : List AV → AV
 | [v] => v
 | vs => .tup vs
def AS.result (s : AS) (rs : List RV) : Option AV := match AD s rs with
 | some vs => outV s.S (AM vs)
 | none => none
def G5 (tmps : Array Value) : ResultVar → Sem Value
 | .tmp t => pure (tmps.getD t undef)
 | .cell x t => do loadVar t (← asAddr (tmps.getD x undef))
theorem LJ (fn : Func) (tmps : Array Value) : results fn tmps = (do
  let vs ← fn.results.mapM (G5 tmps)
  pure (if h : vs.size = 1 then vs[0] else .tuple vs)) := rfl
section
variable {P : Program} {C : Ctx} {a : Act} {w : World} {σ : Sto} {ι : A0} {s : AS}
theorem Gh (R : AQ C σ ι s a w) : ∀ {l : List ResultVar} {rs : List RV} {vs : List AV}, DG P C.n l = some rs → AD s rs = some vs →
  ∃ xs : List Value, (l.mapM (G5 a.tmps)).run P w = .ok xs w ∧ Ae (AT σ s.S ι) xs vs
 | [], rs, vs, h1, h2 => by
  simp only [DG, Option.some.injEq] at h1
  subst h1
  simp only [AD, Option.some.injEq] at h2
  subst h2
  exact ⟨[], by simp, .nil⟩
 | .tmp t :: l, rs, vs, h1, h2 => by
  simp only [DG] at h1
  split at h1
  ·rename_i r e1
   split at h1
   ·rename_i hlt
    cases h1
    simp only [AD, AE] at h2
    split at h2
    ·rename_i v vs' e2 e3
     cases h2
     cases e2
     obtain ⟨xs, k1, k2⟩ := Gh R e1 e3
     exact ⟨_ :: xs, by simp [List.mapM_cons, G5, k1], .cons (R.env t hlt) k2⟩
    ·cases h2
   ·cases h1
  ·cases h1
 | .cell t ty :: l, rs, vs, h1, h2 => by
  simp only [DG] at h1
  split at h1
  ·rename_i r g k e1 e4
   split at h1
   ·rename_i hlt
    cases h1
    simp only [AD] at h2
    split at h2
    ·rename_i v vs' e2 e3
     cases h2
     obtain ⟨xs, k1, k2⟩ := Gh R e1 e3
     simp only [AE] at e2
     split at e2
     ·rename_i id m kk off e5
      split at e2
      ·rename_i cs e6
       split at e2
       ·rename_i hle
        cases e2
        have rt := R.env t hlt
        rw [e5] at rt
        obtain ⟨b, oo, hex, ys, v2, v3⟩ := R.ptr_cells (AW rt) e6
        have hlen := v3.len
        obtain ⟨dd, i, q1, q2, q3, q4⟩ := E1 e4
        obtain ⟨v, r1, r2⟩ := De (P := P) (w := w) (b := b) (o := oo + off) (cs := (ys.drop off).take k) q1 q2 (fun j v hj => by
         rw [List.getElem?_take] at hj
         split at hj
         ·rw [List.getElem?_drop] at hj
          rw [Nat.add_assoc]
          exact v2 _ _ hj
         ·cases hj) g q3 (by simp; omega)
        have r1' : (loadVar ty ⟨b, oo + off, none⟩).run P w = .ok v w := by
         simpa [Instr.loadAt, Instr.sureAddr] using r1
        exact ⟨v :: xs, by simp [List.mapM_cons, G5, hex, asAddr, r1', k1], .cons (DF ((v3.drop off).take k) r2) k2⟩
       ·cases e2
      ·cases e2
     ·cases e2
    ·cases h2
   ·cases h1
  ·cases h1
theorem KU {S : AA} {fn : Func} {tmps : Array Value} {xs : List Value} {vs : List AV} (k1 : (fn.results.toList.mapM (G5 tmps)).run P w = .ok xs w) (k2 : Ae (AT σ S ι) xs vs) : ∃ v, (results fn tmps).run P w = .ok v w ∧ AT σ S ι v (AM vs) := by
 have hl := k2.len
 have hrun : (results fn tmps).run P w = .ok (if h : xs.toArray.size = 1 then xs.toArray[0] else .tuple xs.toArray) w := by
  rw [LJ, Array.mapM_eq_mapM_toList]
  simp [k1]
 refine ⟨_, hrun, ?_⟩
 match xs, vs, k2, hl with
 | [x], [v], k2, _ =>
  cases k2 with
  | cons k2 _ => simpa [AM] using k2
 | [], [], k2, _ => simpa [AM] using AT.tup (σ := σ) (S := S) (ι := ι) (vs := #[]) (ps := []) (fun _ => undef) rfl (by simp) (by simp)
 | x :: y :: xs, v :: v' :: vs, k2, hl =>
  have ht : AM (v :: v' :: vs) = .tup (v :: v' :: vs) := rfl
  rw [ht]
  have hne : ¬ (x :: y :: xs).toArray.size = 1 := by simp
  rw [dif_neg hne]
  refine .tup (fun j => ((x :: y :: xs)[j]?).getD undef) (by simpa using hl) (fun j b hb => ?_) (fun j b hb => ?_)
  ·obtain ⟨a1, h1, _⟩ := k2.get hb
   rw [h1]
   simpa using h1
  ·obtain ⟨a1, h1, h2⟩ := k2.get hb
   rw [h1]
   exact h2
theorem Ot (R : AQ C σ ι s a w) {fn : Func} {rs : List RV} {r : AV} (h1 : DG P C.n fn.results.toList = some rs) (h2 : s.result rs = some r) : ∃ v, (results fn a.tmps).run P w = .ok v w ∧ AT σ noS noH v r := by
 unfold AS.result at h2
 split at h2
 ·rename_i vs e1
  obtain ⟨xs, k1, k2⟩ := Gh R h1 e1
  obtain ⟨v, v1, v2⟩ := KU (fn := fn) (tmps := a.tmps) k1 k2
  exact ⟨v, v1, R.outV v2 h2⟩
 ·cases h2
end
def AS.start (xs : List AV) : AS := ⟨fun i => (xs[i]?).getD (.tup []), noS⟩
def AY (rs : List RV) (r : AV) (e : AX) (s : AS) : Prop := (match e with | .normal => True | .ret => True | _ => False) ∧ s.result rs = some r
theorem LU {P : Program} {f : FuncId} {fn : Func} {mu : List Nat} {c : Code} {x : IR} {rs : List RV} {xs : List AV} {r : AV} (hf : P.funcs[f]? = some fn) (hb : fn.body = some c) (hx : BS P fn.ntmps mu c = some x) (hr : DG P fn.ntmps fn.results.toList = some rs) (hn : xs.length ≤ fn.ntmps)
  (h : ∀ C : Ctx, C.n = fn.ntmps → C.Top → IWP P C mu x (AY rs r) (AS.start xs)) : Aa P f xs r := by
 intro σ w vs hglob hfit hvs
 have hl := hvs.len
 let C : Ctx := ⟨fn.ntmps, w.heap.size, fun _ => False, σ, w, noS, noH, fun i b h => by simp [noS] at h, hglob, [], none, false⟩
 refine callsIn_wide.1 (callsIn_of_wp_marks (n := 0) hf hb trivial ?_)
 have R : AQ C σ noH (AS.start xs) { tmps := vs.toArray ++ Array.replicate (fn.ntmps - vs.toArray.size) undef, defers := [] } w := by
  refine ⟨by simp [C]; omega, fun i hi => ?_, IU, hfit, fun id b h => by simp [AS.start, noS] at h, fun id id' b b' g h => by simp [AS.start, noS] at h, fun id b g h => by simp [AS.start, noS] at h, fun _ _ h => h, fun _ _ _ => rfl, ⟨rfl, rfl, rfl⟩, ⟨Nat.le_refl _, Nat.le_refl _⟩, fun _ _ _ => rfl, Upd.refl _ _⟩
  show AT σ noS noH _ ((xs[i]?).getD (.tup []))
  rw [Array.getD_eq_getD_getElem?]
  by_cases hlt : i < vs.length
  ·rw [Array.getElem?_append_left (by simpa using hlt)]
   obtain ⟨b, hb1, hb2⟩ := hvs.get' (List.getElem?_eq_getElem hlt)
   rw [hb1]
   simpa [hlt] using hb2
  ·rw [Array.getElem?_append_right (by simp; omega), List.getElem?_eq_none (by omega)]
   have hi' : i < fn.ntmps := hi
   rw [Array.getElem?_replicate, if_pos (by simp; omega)]
   exact .tup (fun _ => undef) rfl (by simp) (by simp)
 refine wpIn_mono (h C rfl ⟨rfl, rfl⟩ c hx _ w ⟨σ, noH, R⟩) fun e a' w' he => ?_
 have fin : ∀ s, s.result rs = some r → BG C s a' w' → LeavesInM Fence.wide 0 P fn a'.tmps (fun e w' => ∃ v σ', e = .returned v ∧ AT σ' noS noH v r ∧ Fit σ' w' ∧ Ext w.heap.size σ σ' ∧ Below w.heap.size w w') a'.defers .returning w' := fun s hs hH => by
  obtain ⟨σ', ι', R1⟩ := hH
  refine R1.leaves (fun h => by cases h) fun a2 w2 R' hd ht => ?_
  obtain ⟨v, v1, v2⟩ := Ot R' (fn := fn) hr hs
  exact ⟨v, v1, v, σ', rfl, v2, R'.fit, ⟨R'.ext, fun p hp => R'.old p hp (fun h => h)⟩, ⟨R'.os.1, R'.os.2.1, R'.os.2.2, R'.grown.2, fun k hk => R'.same k hk (fun h => h)⟩⟩
 cases e with
 | normal => obtain ⟨s, h1, h2⟩ := he; exact fin s h1.2 h2
 | ret => obtain ⟨s, h1, h2⟩ := he; exact fin s h1.2 h2
 | exit id => obtain ⟨s, h1, h2⟩ := he; exact h1.1.elim
 | panic ch => obtain ⟨s, v, h1, h2⟩ := he; exact h1.1.1.elim
 | _ => exact he.elim
theorem Mj {P : Program} {f : FuncId} {fn : Func} {mu : List Nat} {c : Code} {x : IR} {rs : List RV} {xs : List AV} {r : AV} (hf : P.funcs[f]? = some fn) (hb : fn.body = some c) (hx : BS P fn.ntmps mu c = some x) (hr : DG P fn.ntmps fn.results.toList = some rs) (hn : xs.length ≤ fn.ntmps)
  (h : ∀ C : Ctx, C.n = fn.ntmps → IWP P C mu x (AY rs r) (AS.start xs)) : Aa P f xs r := LU hf hb hx hr hn fun C h1 _ => h C h1
def Hj (C : Ctx) (rs : List RV) (r : AV) (S' : AA) (e : AX) (s : AS) : Prop := (match e with | .normal => True | .ret => True | _ => False) ∧ ∃ s2 s3 r0, As C s s2 ∧ (AD s2 rs).map AM = some r0 ∧ (∀ σ ι a w, AQ C σ ι s2 a w → ∃ σ' ι', AQ C σ' ι' s3 a w ∧ ∀ v, AT σ s2.S ι v r0 → AT σ' s3.S ι' v r) ∧ s3.S = S' ∧ A7 S'
def AS.startS (xs : List AV) (S : AA) : AS := ⟨fun i => (xs[i]?).getD (.tup []), S⟩
theorem JZ {P : Program} {f : FuncId} {fn : Func} {mu : List Nat} {c : Code} {x : IR} {rs : List RV} {xs : List AV} {S : AA} {r : AV} {S' : AA} (hf : P.funcs[f]? = some fn) (hb : fn.body = some c) (hx : BS P fn.ntmps mu c = some x) (hr : DG P fn.ntmps fn.results.toList = some rs) (hn : xs.length ≤ fn.ntmps)
  (h : A7 S → ∀ C : Ctx, C.n = fn.ntmps → C.Top → IWP P C mu x (Hj C rs r S') (AS.startS xs S)) : Ag P f xs S r S' := by
 intro hclean σ w vs ι hglob hfit hown hvs
 have hl := hvs.len
 let C : Ctx := ⟨fn.ntmps, w.heap.size, fun g => ¬ Ch S ι g, σ, w, S, ι, hclean, hglob, [], none, false⟩
 refine callsIn_wide.1 (callsIn_of_wp_marks (n := 0) hf hb trivial ?_)
 have R : AQ C σ ι (AS.startS xs S) { tmps := vs.toArray ++ Array.replicate (fn.ntmps - vs.toArray.size) undef, defers := [] } w := by
  refine ⟨by simp [C]; omega, fun i hi => ?_, IU, hfit, hown.1, hown.2, fun id b g h hg => .inr (fun hno => hno id b h hg), fun _ _ h => h, fun _ _ _ => rfl, ⟨rfl, rfl, rfl⟩, ⟨Nat.le_refl _, Nat.le_refl _⟩, fun _ _ _ => rfl, Upd.refl _ _⟩
  show AT σ S ι _ ((xs[i]?).getD (.tup []))
  rw [Array.getD_eq_getD_getElem?]
  by_cases hlt : i < vs.length
  ·rw [Array.getElem?_append_left (by simpa using hlt)]
   obtain ⟨b, hb1, hb2⟩ := hvs.get' (List.getElem?_eq_getElem hlt)
   rw [hb1]
   simpa [hlt] using hb2
  ·rw [Array.getElem?_append_right (by simp; omega), List.getElem?_eq_none (by omega)]
   have hi' : i < fn.ntmps := hi
   rw [Array.getElem?_replicate, if_pos (by simp; omega)]
   exact .tup (fun _ => undef) rfl (by simp) (by simp)
 refine wpIn_mono (h hclean C rfl ⟨rfl, rfl⟩ c hx _ w ⟨σ, ι, R⟩) fun e a' w' he => ?_
 have fin : ∀ s, (∃ s2 s3 r0, As C s s2 ∧ (AD s2 rs).map AM = some r0 ∧ (∀ σ ι a w, AQ C σ ι s2 a w → ∃ σ' ι', AQ C σ' ι' s3 a w ∧ ∀ v, AT σ s2.S ι v r0 → AT σ' s3.S ι' v r) ∧ s3.S = S' ∧ A7 S') → BG C s a' w' → LeavesInM Fence.wide 0 P fn a'.tmps (fun e w' => ∃ v σ' ι', e = .returned v ∧ A7 S' ∧ Upd S ι S' ι' ∧ FF σ' S' ι' w' ∧ AT σ' S' ι' v r ∧ Fit σ' w' ∧ (∀ p x, σ p = some x → σ' p = some x) ∧
   (∀ p : Addr, p.block < w.heap.size → Ch S ι p.block → σ' p = σ p) ∧ (w'.os = w.os ∧ w'.tape = w.tape ∧ w'.output = w.output) ∧ w.heap.size ≤ w'.heap.size ∧
   (∀ g, g < w.heap.size → Ch S ι g → w'.heap[g]? = w.heap[g]?) ∧ (∀ id b g, S' id = some b → (ι' id).g = some g → w.heap.size ≤ g ∨ ¬ Ch S ι g)) a'.defers .returning w' := fun s ⟨s2, s3, r0, hg, hres, hlow, hS, hc⟩ hH => by
  obtain ⟨σ1, ι1, R1⟩ := hg _ _ hH
  refine R1.leaves (fun h => by cases h) fun a2 w2 R2 hd ht => ?_
  subst hS
  rw [Option.map_eq_some_iff] at hres
  obtain ⟨vs2, e1, rfl⟩ := hres
  obtain ⟨xs2, k1, k2⟩ := Gh R2 hr e1
  obtain ⟨v, v1, v20⟩ := KU (fn := fn) (tmps := a2.tmps) k1 k2
  obtain ⟨σ', ι', R', hv'⟩ := hlow _ _ _ _ R2
  have v2 := hv' v v20
  exact ⟨v, v1, v, σ', ι', rfl, hc, R'.upd, ⟨R'.blk, R'.inj⟩, v2, R'.fit, R'.ext, fun p h1 h2 => R'.old p h1 (fun h => h h2), R'.os, R'.grown.2, fun g h1 h2 => R'.same g h1 (fun h => h h2), fun id b g h1 h2 => R'.base id b g h1 h2⟩
 cases e with
 | normal => obtain ⟨s, h1, h2⟩ := he; exact fin s h1.2 h2
 | ret => obtain ⟨s, h1, h2⟩ := he; exact fin s h1.2 h2
 | exit id => obtain ⟨s, h1, h2⟩ := he; exact h1.1.elim
 | panic ch => obtain ⟨s, v, h1, h2⟩ := he; exact h1.1.1.elim
 | _ => exact he.elim
theorem LN {P : Program} {f : FuncId} {fn : Func} {mu : List Nat} {c : Code} {x : IR} {rs : List RV} {xs : List AV} {S : AA} {r : AV} {S' : AA} (hf : P.funcs[f]? = some fn) (hb : fn.body = some c) (hx : BS P fn.ntmps mu c = some x) (hr : DG P fn.ntmps fn.results.toList = some rs) (hn : xs.length ≤ fn.ntmps)
  (h : A7 S → ∀ C : Ctx, C.n = fn.ntmps → IWP P C mu x (Hj C rs r S') (AS.startS xs S)) : Ag P f xs S r S' := JZ hf hb hx hr hn fun h0 C h1 _ => h h0 C h1
structure OkF (P : Program) (f n : Nat) (mu : List Nat) (x : IR) (rs : List RV) : Prop where
 ok : ∃ fn c, P.funcs[f]? = some fn ∧ fn.body = some c ∧ fn.ntmps = n ∧ BS P n mu c = some x ∧ DG P n fn.results.toList = some rs
section
variable {P : Program} {f n : Nat} {mu : List Nat} {x : IR} {rs : List RV}
theorem OkF.of {fn : Func} (hf : P.funcs[f]? = some fn) (hb : fn.body.isSome = true) (hn : fn.ntmps = n) (hx : BS P n mu (fn.body.getD .skip) = some x) (hr : DG P n fn.results.toList = some rs) : OkF P f n mu x rs := by
 obtain ⟨c, hc⟩ := Option.isSome_iff_exists.1 hb
 rw [hc] at hx
 exact ⟨fn, c, hf, hc, hn, hx, hr⟩
theorem OkF.ac (o : OkF P f n mu x rs) {xs : List AV} {r : AV} (h : ∀ C : Ctx, C.n = n → IWP P C mu x (AY rs r) (AS.start xs)) (hn : xs.length ≤ n := by exact Nat.le_of_ble_eq_true rfl) : Aa P f xs r := by
 obtain ⟨fn, c, hf, hb, rfl, hx, hr⟩ := o.ok
 exact Mj hf hb hx hr hn h
theorem OkF.acS (o : OkF P f n mu x rs) {xs : List AV} {S S' : AA} {r : AV} (h : A7 S → ∀ C : Ctx, C.n = n → IWP P C mu x (Hj C rs r S') (AS.startS xs S)) (hn : xs.length ≤ n := by exact Nat.le_of_ble_eq_true rfl) : Ag P f xs S r S' := by
 obtain ⟨fn, c, hf, hb, rfl, hx, hr⟩ := o.ok
 exact LN hf hb hx hr hn h
end

set_option linter.unusedSimpArgs false
mutual
def AC.clear (ds : List Nat) : AC → Bool
 | .row id _ => !ds.contains id
 | .part id _ _ => !ds.contains id
 | .rest id _ _ => !ds.contains id
 | .ptr id _ _ _ => !ds.contains id
 | .mptr id => !ds.contains id
 | .yld id => !ds.contains id
 | .ubool => true
 | .fn _ caps => AC.clears ds caps
 | .st _ => true
 | .full _ => true
 | .eptr _ => true
 | .any => true
def AC.clears (ds : List Nat) : List AC → Bool
 | [] => true
 | c :: cs => c.clear ds && AC.clears ds cs
end
theorem Hk {ds : List Nat} : ∀ {l : List AC}, AC.clears ds l = true → ∀ a ∈ l, a.clear ds = true
 | [], _, a, ha => by simp at ha
 | x :: xs, hx, a, ha => by
  rw [AC.clears, Bool.and_eq_true] at hx
  rcases List.mem_cons.1 ha with rfl | ha
  ·exact hx.1
  ·exact Hk hx.2 a ha
def AC.purge (ds : List Nat) : AC → AC
 | .row id n => if ds.contains id then .any else .row id n
 | .part id k n => if ds.contains id then .any else .part id k n
 | .rest id k n => if ds.contains id then .any else .rest id k n
 | .ptr id n k off => if ds.contains id then .any else .ptr id n k off
 | .mptr id => if ds.contains id then .any else .mptr id
 | .yld id => if ds.contains id then .any else .yld id
 | .fn f caps => if AC.clears ds caps then .fn f caps else .any
 | c => c
mutual
def AV.purge (ds : List Nat) : AV → AV
 | .one c => .one (c.purge ds)
 | .agg cs => .agg (cs.map (AC.purge ds))
 | .tup vs => .tup (AV.purges ds vs)
 | .any => .any
def AV.purges (ds : List Nat) : List AV → List AV
 | [] => []
 | v :: vs => v.purge ds :: AV.purges ds vs
end
def AI.purge (ds : List Nat) : AI → AI
 | .box e cs => .box e (cs.map (AC.purge ds))
 | .crow e cs => .crow e (cs.map (AC.purge ds))
 | .iter x n seen => .iter (x.purge ds) n seen
 | .loop env r => .loop (AV.purges ds env) r
 | b => b
def AN (ds : List Nat) (S : AA) : AA := fun id => if ds.contains id then none else (S id).map (AI.purge ds)
def AS.drop (ds : List Nat) (s : AS) : AS := ⟨fun i => (s.env i).purge ds, AN ds s.S⟩
theorem CF {ds : List Nat} (hds : ∀ d ∈ ds, d < 1000) {id : Nat} (h : 1000 ≤ id) : ds.contains id = false := by
 cases hc : ds.contains id with
 | false => rfl
 | true =>
  have := hds id (List.contains_iff_mem.1 hc)
  omega
mutual
theorem AC.clear_high {ds : List Nat} (hds : ∀ d ∈ ds, d < 1000) : ∀ {c : AC}, c.high = true → c.clear ds = true
 | .st _, _ => rfl
 | .full _, _ => rfl
 | .row id n, h => by
  rw [AC.high] at h
  rw [AC.clear, CF hds (of_decide_eq_true h)]
  rfl
 | .part id k n, h => by
  rw [AC.high] at h
  rw [AC.clear, CF hds (of_decide_eq_true h)]
  rfl
 | .rest id k n, h => by
  rw [AC.high] at h
  rw [AC.clear, CF hds (of_decide_eq_true h)]
  rfl
 | .ptr id n k off, h => by
  rw [AC.high] at h
  rw [AC.clear, CF hds (of_decide_eq_true h)]
  rfl
 | .mptr id, h => by
  rw [AC.high] at h
  rw [AC.clear, CF hds (of_decide_eq_true h)]
  rfl
 | .yld id, h => by
  rw [AC.high] at h
  rw [AC.clear, CF hds (of_decide_eq_true h)]
  rfl
 | .ubool, _ => rfl
 | .eptr _, _ => rfl
 | .fn f caps, h => by
  rw [AC.high] at h
  rw [AC.clear]
  exact AC.clears_highs hds h
 | .any, _ => rfl
theorem AC.clears_highs {ds : List Nat} (hds : ∀ d ∈ ds, d < 1000) : ∀ {cs : List AC}, AC.highs cs = true → AC.clears ds cs = true
 | [], _ => rfl
 | c :: cs, h => by
  rw [AC.highs, Bool.and_eq_true] at h
  rw [AC.clears, AC.clear_high hds h.1, AC.clears_highs hds h.2]
  rfl
end
theorem AC.purge_high {ds : List Nat} (hds : ∀ d ∈ ds, d < 1000) : ∀ {c : AC}, c.high = true → c.purge ds = c
 | .st _, _ => rfl
 | .full _, _ => rfl
 | .row id n, h => by
  rw [AC.high] at h
  simp only [AC.purge, CF hds (of_decide_eq_true h), Bool.false_eq_true, if_false]
 | .part id k n, h => by
  rw [AC.high] at h
  simp only [AC.purge, CF hds (of_decide_eq_true h), Bool.false_eq_true, if_false]
 | .rest id k n, h => by
  rw [AC.high] at h
  simp only [AC.purge, CF hds (of_decide_eq_true h), Bool.false_eq_true, if_false]
 | .ptr id n k off, h => by
  rw [AC.high] at h
  simp only [AC.purge, CF hds (of_decide_eq_true h), Bool.false_eq_true, if_false]
 | .mptr id, h => by
  rw [AC.high] at h
  simp only [AC.purge, CF hds (of_decide_eq_true h), Bool.false_eq_true, if_false]
 | .yld id, h => by
  rw [AC.high] at h
  simp only [AC.purge, CF hds (of_decide_eq_true h), Bool.false_eq_true, if_false]
 | .ubool, _ => rfl
 | .eptr _, _ => rfl
 | .fn f caps, h => by
  rw [AC.high] at h
  simp only [AC.purge, AC.clears_highs hds h, if_true]
 | .any, _ => rfl
mutual
theorem AV.purge_high {ds : List Nat} (hds : ∀ d ∈ ds, d < 1000) : ∀ {c : AV}, c.high = true → c.purge ds = c
 | .one c, h => by rw [AV.high] at h; rw [AV.purge, AC.purge_high hds h]
 | .agg cs, h => by
  rw [AV.high] at h
  rw [AV.purge]
  congr 1
  exact (List.map_congr_left fun a ha => AC.purge_high hds (Bh h a ha)).trans (List.map_id _)
 | .tup vs, h => by rw [AV.high] at h; rw [AV.purge, AV.purges_high hds h]
 | .any, _ => rfl
theorem AV.purges_high {ds : List Nat} (hds : ∀ d ∈ ds, d < 1000) : ∀ {c : List AV}, AV.highs c = true → AV.purges ds c = c
 | [], _ => rfl
 | c :: cs, h => by
  rw [AV.highs, Bool.and_eq_true] at h
  rw [AV.purges, AV.purge_high hds h.1, AV.purges_high hds h.2]
end
theorem AI.purge_high {ds : List Nat} (hds : ∀ d ∈ ds, d < 1000) {b : AI} (h : b.high = true) : b.purge ds = b := by
 cases b with
 | box e cs =>
  rw [AI.high] at h
  simp only [AI.purge]
  congr 1
  exact (List.map_congr_left fun a ha => AC.purge_high hds (Bh h a ha)).trans (List.map_id _)
 | crow e cs =>
  rw [AI.high] at h
  simp only [AI.purge]
  congr 1
  exact (List.map_congr_left fun a ha => AC.purge_high hds (Bh h a ha)).trans (List.map_id _)
 | arow => rfl
 | mrow => rfl
 | map => rfl
 | memo => rfl
 | iter x =>
  rw [AI.high] at h
  simp only [AI.purge, AC.purge_high hds h]
 | loop env r =>
  rw [AI.high] at h
  simp only [AI.purge, AV.purges_high hds h]
 | dead => rfl
section
variable {C : Ctx} {σ : Sto} {ι : A0} {s : AS} {a : Act} {w : World} {ds : List Nat}
theorem BB (b : AI) : (b.purge ds).len = b.len := by cases b <;> first | rfl | simp [AI.purge, AI.len]
theorem Eh (b : AI) : (b.purge ds).wid = b.wid := by cases b <;> rfl
theorem Am.keepClear {ds : List Nat} {S S2 : AA} (hS : ∀ id b, ds.contains id = false → S id = some b → ∃ b', S2 id = some b' ∧ b'.len = b.len ∧ b'.wid = b.wid) {v : Value} {c : AC} (h : Am σ S ι v c) (hc : c.clear ds = true) : Am σ S2 ι v c := by
 induction h with
 | st h => exact .st h
 | full h => exact .full h
 | row h1 h2 h3 h4 =>
  rw [AC.clear] at hc
  obtain ⟨b', q1, q2, q3⟩ := hS _ _ (by simpa using hc) h1
  exact .row q1 (by rw [q2]; exact h2) h3 (by rw [q2]; exact h4)
 | part h1 h2 h3 h4 =>
  rw [AC.clear] at hc
  obtain ⟨b', q1, q2, q3⟩ := hS _ _ (by simpa using hc) h1
  exact .part q1 (by rw [q2]; exact h2) h3 (by rw [q2]; exact h4)
 | rest h1 h2 h3 h4 =>
  rw [AC.clear] at hc
  obtain ⟨b', q1, q2, q3⟩ := hS _ _ (by simpa using hc) h1
  exact .rest q1 (by rw [q2]; exact h2) h3 (by rw [q2, q3]; exact h4)
 | ptr h1 h2 h3 h4 =>
  rw [AC.clear] at hc
  obtain ⟨b', q1, q2, q3⟩ := hS _ _ (by simpa using hc) h1
  exact .ptr q1 (by rw [q2]; exact h2) h3 (by rw [q2, q3]; exact h4)
 | mptr h1 h2 h3 h4 =>
  rw [AC.clear] at hc
  obtain ⟨b', q1, q2, q3⟩ := hS _ _ (by simpa using hc) h1
  exact .mptr q1 (by rw [q2]; exact h2) h3 (by rw [q2]; exact h4)
 | yld h1 h2 h3 h4 =>
  rw [AC.clear] at hc
  obtain ⟨b', q1, q2, q3⟩ := hS _ _ (by simpa using hc) h1
  exact .yld q1 (by rw [q2]; exact h2) h3 (by rw [q2]; exact h4)
 | ubool => exact .ubool
 | eptr c h1 h2 hh => exact .eptr c h1 h2 hh
 | fn c h1 h2 h3 ih =>
  rw [AC.clear] at hc
  exact .fn c h1 h2 (fun j a ha => ih j a ha (Hk hc a (List.mem_of_getElem? ha)))
 | any h => exact .any h
theorem Am.purge (hds : ∀ d ∈ ds, d < 1000) {v : Value} {c : AC} (h : Am σ s.S ι v c) : Am σ (s.drop ds).S ι v (c.purge ds) := by
 have h0 := h
 cases h with
 | st h => exact .st h
 | full h => exact .full h
 | @row _ id n b h1 h2 h3 h4 =>
  simp only [AC.purge]
  split
  ·exact .any h3
  ·rename_i hn
   exact .row (b := b.purge ds) (by simp only [AS.drop, AN, hn]; rw [h1]; rfl) (by rw [BB]; exact h2) h3 (by rw [BB]; exact h4)
 | @part _ id k n b h1 h2 h3 h4 =>
  simp only [AC.purge]
  split
  ·exact .any h3
  ·rename_i hn
   exact .part (b := b.purge ds) (by simp only [AS.drop, AN, hn]; rw [h1]; rfl) (by rw [BB]; exact h2) h3 (by rw [BB]; exact h4)
 | @rest _ id k n b h1 h2 h3 h4 =>
  simp only [AC.purge]
  split
  ·exact .any h3
  ·rename_i hn
   exact .rest (b := b.purge ds) (by simp only [AS.drop, AN, hn]; rw [h1]; rfl) (by rw [BB]; exact h2) h3 (by rw [BB, Eh]; exact h4)
 | @ptr _ id n k off b h1 h2 h3 h4 =>
  simp only [AC.purge]
  split
  ·exact .any h3
  ·rename_i hn
   exact .ptr (b := b.purge ds) (by simp only [AS.drop, AN, hn]; rw [h1]; rfl) (by rw [BB]; exact h2) h3 (by rw [BB, Eh]; exact h4)
 | @mptr _ id b h1 h2 h3 h4 =>
  simp only [AC.purge]
  split
  ·exact .any h3
  ·rename_i hn
   exact .mptr (b := b.purge ds) (by simp only [AS.drop, AN, hn]; rw [h1]; rfl) (by rw [BB]; exact h2) h3 (by rw [BB]; exact h4)
 | @yld _ id b h1 h2 h3 h4 =>
  simp only [AC.purge]
  split
  ·exact .any h3
  ·rename_i hn
   exact .yld (b := b.purge ds) (by simp only [AS.drop, AN, hn]; rw [h1]; rfl) (by rw [BB]; exact h2) h3 (by rw [BB]; exact h4)
 | ubool => exact .ubool
 | eptr c h1 h2 hh => exact .eptr c h1 h2 hh
 | @fn f vs caps c h1 h2 h3 =>
  simp only [AC.purge]
  split
  ·rename_i hh
   exact h0.keepClear (ds := ds) (fun id b hid hb => ⟨b.purge ds, by
    show AN ds s.S id = _
    unfold AN
    rw [hid, hb]
    rfl, BB b, Eh b⟩) (by rw [AC.clear]; exact hh)
  ·exact .any rfl
 | any h => exact .any h
mutual
theorem AT.purge (hds : ∀ d ∈ ds, d < 1000) : ∀ {v : Value} {c : AV}, AT σ s.S ι v c → AT σ (s.drop ds).S ι v (c.purge ds)
 | v, .one c, h => by cases h with | one h => exact .one (h.purge hds)
 | v, .agg cs, h => by cases h with | agg h => exact .agg ((h.mono fun _ _ x => x.purge hds).map_right)
 | v, .tup vs, h => by
  cases h with
  | tup c h1 h2 h3 =>
   obtain ⟨k1, k2⟩ := AT.purges hds (c := c) h3
   exact .tup c (by rw [h1, k1]) (fun j b hb => by
    rcases Nat.lt_or_ge j vs.length with hj | hj
    ·exact h2 j _ (List.getElem?_eq_getElem hj)
    ·rw [List.getElem?_eq_none (by omega)] at hb; cases hb) k2
 | v, .any, h => .any
theorem AT.purges (hds : ∀ d ∈ ds, d < 1000) : ∀ {vs : List AV} {c : Nat → Value}, (∀ j b, vs[j]? = some b → AT σ s.S ι (c j) b) → vs.length = (AV.purges ds vs).length ∧ ∀ j b, (AV.purges ds vs)[j]? = some b → AT σ (s.drop ds).S ι (c j) b
 | [], c, h => by simp [AV.purges]
 | x :: xs, c, h => by
  obtain ⟨m1, m2⟩ := AT.purges hds (vs := xs) (c := fun j => c (j + 1)) (fun j b hb => h (j + 1) b (by simpa using hb))
  refine ⟨by simp [AV.purges, ← m1], fun j b hb => ?_⟩
  cases j with
  | zero =>
   simp [AV.purges] at hb
   subst hb
   exact AT.purge hds (h 0 x rfl)
  | succ j => exact m2 j b (by simpa [AV.purges] using hb)
end
theorem Bk.purge (hds : ∀ d ∈ ds, d < 1000) {h : Hnd} {b : AI} (hr : Bk σ s.S ι w h b) : Bk σ (s.drop ds).S ι w h (b.purge ds) := by
 cases hr with
 | box h1 h2 h3 h4 h5 => exact .box h1 h2 h3 ((h4.mono fun _ _ x => x.purge hds).map_right) h5
 | crow h1 h2 h3 hc hm h4 h5 => exact .crow h1 h2 h3 (by simpa using hc) hm (by rw [List.length_map]; exact (h4.mono fun _ _ x => x.purge hds).map_right) h5
 | afull h1 h2 h3 h4 => exact .afull h1 h2 h3 h4
 | arow h1 h2 h3 h4 h5 h6 h7 h8 h9 hh => exact .arow h1 h2 h3 h4 h5 h6 h7 h8 h9 hh
 | mnil h1 h2 => exact .mnil h1 h2
 | mrow h1 h2 h3 h4 h5 h6 h7 h8 h9 => exact .mrow h1 h2 h3 h4 h5 h6 h7 h8 h9
 | map h1 h2 h3 h4 => exact .map h1 h2 h3 h4
 | memo h1 h2 h3 h4 => exact .memo h1 h2 h3 h4
 | iter h1 h2 h3 h4 => exact .iter h1 h2 (h3.purge hds) h4
 | loop h1 h2 h3 h4 h5 =>
  obtain ⟨k1, k2⟩ := AT.purges hds h4
  exact .loop h1 h2 (by rw [← k1]; exact h3) k2 h5
 | dead h1 => exact .dead h1
theorem Ea {id : Nat} {b : AI} (h : (s.drop ds).S id = some b) : ∃ b', s.S id = some b' ∧ b = b'.purge ds := by
 simp only [AS.drop, AN] at h
 split at h
 ·cases h
 ·rw [Option.map_eq_some_iff] at h
  obtain ⟨b', h1, h2⟩ := h
  exact ⟨b', h1, h2.symm⟩
theorem As.drop (ds : List Nat) (s : AS) (hds : ∀ d ∈ ds, d < 1000) : As C s (s.drop ds) := fun a w ⟨σ, ι, R⟩ => by
 refine ⟨σ, ι, R.size, fun i hi => (R.env i hi).purge hds, R.nod, R.fit, fun id b h => ?_, fun id id' b b' g h1 h2 g1 g2 => ?_, fun id b g h hg => ?_, R.ext, R.old, R.os, R.grown, R.same, fun id b hb => ?_⟩
 ·obtain ⟨b', h1, rfl⟩ := Ea h
  exact (R.blk id b' h1).purge hds
 ·obtain ⟨c1, k1, _⟩ := Ea h1
  obtain ⟨c2, k2, _⟩ := Ea h2
  exact R.inj _ _ _ _ _ k1 k2 g1 g2
 ·obtain ⟨c1, k1, _⟩ := Ea h
  exact R.base _ _ _ k1 hg
 ·obtain ⟨b', h1, h2, h3⟩ := R.upd id b hb
  have hid := (C.clean id b hb).1
  have hnc : ds.contains id = false := by
   cases hc : ds.contains id with
   | false => rfl
   | true =>
    have := hds id (List.contains_iff_mem.1 hc)
    omega
  refine ⟨b'.purge ds, by simp only [AS.drop, AN, hnc]; rw [h1]; rfl, by rw [BB]; exact h2, fun hl => ?_⟩
  rw [BB] at hl
  rw [Eh]
  exact h3 hl
theorem As.share {id : Nat} {e : TypeId} {wd : Nat} {xs : List (List SV)} (hS : s.S id = some (.mrow e wd xs)) : As C s (s.set id (.arow e wd xs)) := fun a w ⟨σ, ι, R⟩ => by
 have hb := R.blk _ _ hS
 have hι : AO ι id (ι id) = ι := by
  funext k
  unfold AO
  split
  ·rename_i h; rw [h]
  ·rfl
 cases hb with
 | mnil h1 h2 =>
  obtain ⟨hu, R'⟩ := R.turn (w' := w) hS (.arow e wd []) (ι id) (σ' := σ) (fun _ _ h => h) (fun _ _ _ => rfl) R.fit (Nat.le_refl _) (fun _ => ⟨rfl, rfl⟩) ⟨rfl, rfl, rfl⟩ (Nat.le_refl _) (fun _ _ _ => rfl) (fun g h => .inl h) (fun hu => .afull h1 (by simpa using h2) (by simp) (.list (b := 0) (o := 0) (w := 0) (fun _ _ => undef) rfl (by simp) (by rw [h2]; simp [maxLen]) (fun _ => h2) (by simp) (by simp) (fun _ h _ => absurd h (by omega)) (by simp) (by simp)))
  exact ⟨σ, _, R'⟩
 | @mrow _ _ _ g vs h1 h2 h3 h4 h5 h6 h7 h8 h9 =>
  have hl : A5 σ vs.toList wd xs := ⟨h7, fun k x j y hx hy => by simpa using h8 k x j y hx hy⟩
  have hkeep := Ej (σ := σ) (w' := w) (g := g) (k := xs.length * wd) (fun p x e hx => by rw [h9 _ e] at hx; cases hx)
  obtain ⟨hu, R'⟩ := R.turn (w' := w) hS (.arow e wd xs) (ι id) (σ' := Cy σ w g (xs.length * wd)) hkeep (fun p hp _ => D9 (fun e => hp (by rw [e]; exact h1))) (DK R.fit) (Nat.le_refl _) (fun _ => ⟨rfl, rfl⟩) ⟨rfl, rfl, rfl⟩ (Nat.le_refl _) (fun _ _ _ => rfl) (fun g h => .inl h)
   (fun hu => by
    have := Fj (S' := (s.set id (.arow e wd xs)).S) (ι' := AO ι id (ι id)) (w' := w) (p := (ι id).p) h2 h3 h4 h5 h6 hl hkeep (fun p hp hne => absurd (h9 p hp) hne)
    rw [← h1] at this
    exact this)
  exact ⟨_, _, R'⟩
theorem As.own (t id : Nat) (e : TypeId) (wd : Nat) {xs : List (List SV)} (ht : s.env t = .one (.full xs)) (hid : s.S id = none) (hw : ∀ x ∈ xs, x.length = wd) (hn : t < C.n) : As C s ⟨AO s.env t (.one (.row id xs.length)), AO s.S id (some (.arow e wd xs))⟩ := fun a w ⟨σ, ι, R⟩ => by
 have rt := R.env t hn
 rw [ht] at rt
 generalize hv : a.tmps.getD t undef = v at rt
 cases AW rt with
 | @full p len xs hs =>
  have hl : len = xs.length := by
   obtain ⟨p', cap', e1, _⟩ := CW hs
   cases e1
   rfl
  subst hl
  obtain ⟨hu, R'⟩ := R.fresh (w' := w) hid (.arow e wd xs) ⟨p, xs.length, none⟩ (Ext.refl _ _) R.fit (Below.refl _ _) (by simp) (fun S' ι' hu => .afull rfl rfl hw hs)
  refine ⟨σ, _, R'.size, fun i hi => ?_, R'.nod, R'.fit, R'.blk, R'.inj, R'.base, R'.ext, R'.old, R'.os, R'.grown, R'.same, R'.upd⟩
  show AT σ (s.set id (.arow e wd xs)).S _ _ (AO s.env t _ i)
  unfold AO
  split
  ·rename_i e1
   subst e1
   rw [hv]
   exact .one (.row (b := .arow e wd xs) (by simp [AS.set, AG]) (Nat.le_refl _) rfl fun _ => by simp [AO])
  ·exact R'.env i hi
theorem As.ownM (t id : Nat) (e : TypeId) (wd : Nat) (ht : s.env t = .one (.full [])) (hid : s.S id = none) (hn : t < C.n) : As C s ⟨AO s.env t (.one (.row id 0)), AO s.S id (some (.mrow e wd []))⟩ := fun a w ⟨σ, ι, R⟩ => by
 have rt := R.env t hn
 rw [ht] at rt
 generalize hv : a.tmps.getD t undef = v at rt
 cases AW rt with
 | @full p len xs hs =>
  have hl : len = 0 := by
   obtain ⟨p', cap', e1, _⟩ := CW hs
   cases e1
   rfl
  subst hl
  obtain ⟨hu, R'⟩ := R.fresh (w' := w) hid (.mrow e wd []) ⟨p, 0, none⟩ (Ext.refl _ _) R.fit (Below.refl _ _) (by simp) (fun S' ι' hu => .mnil rfl rfl)
  refine ⟨σ, _, R'.size, fun i hi => ?_, R'.nod, R'.fit, R'.blk, R'.inj, R'.base, R'.ext, R'.old, R'.os, R'.grown, R'.same, R'.upd⟩
  show AT σ (s.set id (.mrow e wd [])).S _ _ (AO s.env t _ i)
  unfold AO
  split
  ·rename_i e1
   subst e1
   rw [hv]
   exact .one (.row (b := .mrow e wd []) (by simp [AS.set, AG]) (Nat.le_refl _) rfl fun _ => by simp [AO])
  ·exact R'.env i hi
theorem As.keep (t id k n : Nat) {e : TypeId} {wd : Nat} {xs : List (List SV)} (ht : s.env t = .one (.part id k n)) (hS : s.S id = some (.arow e wd xs)) (hl : n = xs.length) (hn : t < C.n) : As C s ⟨AO s.env t (.one (.st (.list (xs.take k)))), s.S⟩ := fun a w ⟨σ, ι, R⟩ => by
 have rt := R.env t hn
 rw [ht] at rt
 refine ⟨σ, ι, R.size, fun i hi => ?_, R.nod, R.fit, R.blk, R.inj, R.base, R.ext, R.old, R.os, R.grown, R.same, R.upd⟩
 show AT σ s.S ι _ (AO s.env t _ i)
 unfold AO
 split
 ·rename_i e1
  subst e1
  obtain ⟨b, h1, h2, h3⟩ := DX (AW rt)
  rw [hS] at h1
  cases h1
  obtain ⟨h4, h5⟩ := h3 hl
  rw [h5]
  have hb := R.blk _ _ hS
  have hr := hb.srep
  have hmem : ∀ {kk x}, (xs.take k)[kk]? = some x → xs[kk]? = some x := fun hx => by
   rw [List.getElem?_take] at hx
   split at hx
   ·exact hx
   ·cases hx
  cases hr with
  | @list p len cap b o w' _ c q1 q2 q3 q4 q5 q6 qh q7 q8 =>
   exact .one (.st (.list (b := b) (o := o) (w := w') c (by rw [List.length_take]; omega) (by omega) q3 q4 (fun hne => q5 (by omega)) (fun x hx => q6 x (List.mem_of_mem_take hx)) (fun e1 e2 e3 => qh e1 e2 (fun e4 => e3 (by rw [e4]; exact List.take_nil))) (fun kk x j a hx ha => q7 kk x j a (hmem hx) ha) (fun kk x j a hx ha => q8 kk x j a (hmem hx) ha)))
 ·exact R.env i hi
theorem As.ownC (id j nid : Nat) (e : TypeId) (wd : Nat) {xs : List (List SV)} {ty : TypeId} {cs : List AC} (hb : s.S id = some (.box ty cs)) (hc : cs[j]? = some (.full xs)) (hn : s.S nid = none) (hw : ∀ x ∈ xs, x.length = wd) :
  As C s ((s.set nid (.arow e wd xs)).set id (.box ty (cs.set j (.row nid xs.length)))) := fun a w ⟨σ, ι, R⟩ => by
 have hbk := R.blk id _ hb
 have hne : id ≠ nid := fun e => by subst e; rw [hb] at hn; cases hn
 cases hbk with
 | @box _ _ g vs h1 h2 h3 h4 h5 =>
  obtain ⟨v, hv, hr⟩ := h4.get hc
  cases hr with
  | @full p len xs hs =>
   have hl : len = xs.length := by
    obtain ⟨p', cap', e1, _⟩ := CW hs
    cases e1
    rfl
   subst hl
   obtain ⟨hu, R'⟩ := R.fresh (w' := w) hn (.arow e wd xs) ⟨p, xs.length, none⟩ (Ext.refl _ _) R.fit (Below.refl _ _) (by simp) (fun S' ι' hu => .afull rfl rfl hw hs)
   have hb' : (s.set nid (.arow e wd xs)).S id = some (.box ty cs) := by simp [AS.set, AU _ hne, hb]
   have hι : AO ι nid ⟨p, xs.length, none⟩ id = ι id := AU _ hne _
   obtain ⟨hu2, R2⟩ := R'.turn (w' := w) hb' (.box ty (cs.set j (.row nid xs.length))) (AO ι nid ⟨p, xs.length, none⟩ id) (σ' := σ) (fun _ _ h => h) (fun _ _ _ => rfl) R.fit (Nat.le_refl _) (fun _ => ⟨by simp [AI.wid], rfl⟩) ⟨rfl, rfl, rfl⟩ (Nat.le_refl _) (fun _ _ _ => rfl) (fun g h => .inl h) (fun hu2 => by
    refine .box (by rw [hι]; exact h1) (by rw [hι]; exact h2) h3 (Ae.of_get (by rw [List.length_set]; exact h4.len) fun k u c hu' hck => ?_) h5
    by_cases hk : k = j
    ·subst hk
     rw [hv] at hu'
     cases hu'
     have hlt : k < cs.length := (List.getElem?_eq_some_iff.1 hc).1
     rw [List.getElem?_set_self hlt] at hck
     cases hck
     exact .row (b := .arow e wd xs) (by simp [AS.set, AO, hne.symm]) (Nat.le_refl _) rfl fun _ => by simp [AO, hne.symm]
    ·rw [List.getElem?_set_ne (fun e => hk e.symm)] at hck
     obtain ⟨u', q1, q2⟩ := h4.get hck
     rw [hu'] at q1
     cases q1
     exact (q2.mono (fun _ _ h => h) hu).mono (fun _ _ h => h) hu2)
   exact ⟨_, _, R2⟩
theorem Lb {v : Value} {c : AV} (h : AT σ noS noH v c) : AT σ s.S ι v c := h.mono (fun _ _ h => h) (FI _ _)
def AV.low (v : AV) : AV := if v.high then v else .any
theorem AQ.low (R : AQ C σ ι s a w) (hb : ∀ i b, 1000 ≤ i → s.S i = some b → b.high = true) : AQ C σ ι ⟨fun i => (s.env i).low, B6 s.S⟩ a w := by
 have hS : ∀ i b, 1000 ≤ i → s.S i = some b → B6 s.S i = some b := fun i b hi h => by
  show (if i < 1000 then none else s.S i) = some b
  rw [if_neg (by omega), h]
 have hinv : ∀ i b, B6 s.S i = some b → 1000 ≤ i ∧ s.S i = some b := fun i b h => by
  have h' : (if i < 1000 then none else s.S i) = some b := h
  split at h'
  ·cases h'
  ·exact ⟨by omega, h'⟩
 refine ⟨R.size, fun i hi => ?_, R.nod, R.fit, fun id b h => ?_, fun id id' b b' g h1 h2 g1 g2 => R.inj _ _ _ _ g (hinv _ _ h1).2 (hinv _ _ h2).2 g1 g2, fun id b g h hg => R.base _ _ g (hinv _ _ h).2 hg, R.ext, R.old, R.os, R.grown, R.same, fun id b h => ?_⟩
 ·show AT σ (B6 s.S) ι _ ((s.env i).low)
  unfold AV.low
  split
  ·rename_i hh
   exact (R.env i hi).low hS hh
  ·exact .any
 ·obtain ⟨h1, h2⟩ := hinv _ _ h
  have hh := hb id b h1 h2
  cases R.blk id b h2 with
  | box k1 k2 k3 k4 k5 => exact .box k1 k2 k3 (Hg hS k4 hh) k5
  | crow k1 k2 k3 kc km k4 k5 => exact .crow k1 k2 k3 kc km (Hg hS k4 hh) k5
  | afull k1 k2 k3 k4 => exact .afull k1 k2 k3 k4
  | arow k1 k2 k3 k4 k5 k6 k7 k8 k9 kh => exact .arow k1 k2 k3 k4 k5 k6 k7 k8 k9 kh
  | mnil k1 k2 => exact .mnil k1 k2
  | mrow k1 k2 k3 k4 k5 k6 k7 k8 k9 => exact .mrow k1 k2 k3 k4 k5 k6 k7 k8 k9
  | map k1 k2 k3 k4 => exact .map k1 k2 k3 k4
  | memo k1 k2 k3 k4 => exact .memo k1 k2 k3 k4
  | iter k1 k2 k3 k4 => exact .iter k1 k2 (k3.low hS hh) k4
  | loop k1 k2 k3 k4 k5 => exact .loop k1 k2 k3 (AT.lows hS k4 hh) k5
  | dead k1 => exact .dead k1
 ·obtain ⟨b', h1, h2⟩ := R.upd id b h
  exact ⟨b', hS _ _ (C.clean id b h).1 h1, h2⟩
theorem As.low (hb : ∀ i b, 1000 ≤ i → s.S i = some b → b.high = true) : As C s ⟨fun i => (s.env i).low, B6 s.S⟩ := fun a w ⟨σ, ι, R⟩ => ⟨σ, ι, R.low hb⟩
def BA (id a : Nat) (i : Nat) : Nat := if i = id then a else i
def AV.hand (id a : Nat) (v : AV) : AV := if (v.ren (BA id a)).high then v.ren (BA id a) else .any
section
variable {S S2 : AA} {ι2 : A0} {id a0 : Nat}
theorem Am.hand (hS : ∀ i b, 1000 ≤ BA id a0 i → S i = some b → S2 (BA id a0 i) = some b ∧ ι2 (BA id a0 i) = ι i) {v : Value} {c : AC} (h : Am σ S ι v c) (hc : (c.ren (BA id a0)).high = true) : Am σ S2 ι2 v (c.ren (BA id a0)) := by
 induction h with
 | st h => exact .st h
 | full h => exact .full h
 | row h1 h2 h3 h4 =>
  rw [AC.ren, AC.high] at hc
  obtain ⟨q1, q2⟩ := hS _ _ (of_decide_eq_true hc) h1
  rw [AC.ren]
  exact .row q1 h2 h3 (fun hn => by rw [q2]; exact h4 hn)
 | part h1 h2 h3 h4 =>
  rw [AC.ren, AC.high] at hc
  obtain ⟨q1, q2⟩ := hS _ _ (of_decide_eq_true hc) h1
  rw [AC.ren]
  exact .part q1 h2 h3 (fun hn => by rw [q2]; exact h4 hn)
 | rest h1 h2 h3 h4 =>
  rw [AC.ren, AC.high] at hc
  obtain ⟨q1, q2⟩ := hS _ _ (of_decide_eq_true hc) h1
  rw [AC.ren]
  exact .rest q1 h2 h3 (fun hn => by rw [q2]; exact h4 hn)
 | ptr h1 h2 h3 h4 =>
  rw [AC.ren, AC.high] at hc
  obtain ⟨q1, q2⟩ := hS _ _ (of_decide_eq_true hc) h1
  rw [AC.ren]
  exact .ptr q1 h2 h3 (fun hn => by rw [q2]; exact h4 hn)
 | mptr h1 h2 h3 h4 =>
  rw [AC.ren, AC.high] at hc
  obtain ⟨q1, q2⟩ := hS _ _ (of_decide_eq_true hc) h1
  rw [AC.ren]
  exact .mptr q1 h2 h3 (fun hn => by rw [q2]; exact h4 hn)
 | yld h1 h2 h3 h4 =>
  rw [AC.ren, AC.high] at hc
  obtain ⟨q1, q2⟩ := hS _ _ (of_decide_eq_true hc) h1
  rw [AC.ren]
  exact .yld q1 h2 h3 (fun hn => by rw [q2]; exact h4 hn)
 | ubool => exact .ubool
 | eptr c h1 h2 hh => exact .eptr c h1 h2 hh
 | @fn f vs caps c h1 h2 h3 ih =>
  rw [AC.ren, AC.high] at hc
  rw [AC.ren]
  have key : ∀ (j : Nat) (b : AC), (AC.rens (BA id a0) caps)[j]? = some b → ∃ a, caps[j]? = some a ∧ b = a.ren (BA id a0) := fun j b hb => by
   rw [AC.rens_eq, List.getElem?_map, Option.map_eq_some_iff] at hb
   obtain ⟨a, ha, rfl⟩ := hb
   exact ⟨a, ha, rfl⟩
  refine .fn c (by rw [AC.rens_eq]; simpa using h1) (fun j b hb => ?_) (fun j b hb => ?_)
  ·obtain ⟨a, ha, rfl⟩ := key j b hb
   exact h2 j a ha
  ·have hm := Bh hc b (List.mem_of_getElem? hb)
   obtain ⟨a, ha, rfl⟩ := key j b hb
   exact ih j a ha hm
 | any h => exact .any h
mutual
theorem AT.hand (hS : ∀ i b, 1000 ≤ BA id a0 i → S i = some b → S2 (BA id a0 i) = some b ∧ ι2 (BA id a0 i) = ι i) : ∀ {v : Value} {c : AV}, AT σ S ι v c → (c.ren (BA id a0)).high = true → AT σ S2 ι2 v (c.ren (BA id a0))
 | v, .one c, h, hc => by
  rw [AV.ren] at hc ⊢
  rw [AV.high] at hc
  cases h with | one h => exact .one (h.hand hS hc)
 | v, .agg cs, h, hc => by
  rw [AV.ren] at hc ⊢
  rw [AV.high] at hc
  cases h with
  | agg h =>
   refine .agg (Ae.of_get (by rw [AC.rens_eq]; simpa using h.len) fun j x c hx hcj => ?_)
   have hm := Bh hc c (List.mem_of_getElem? hcj)
   rw [AC.rens_eq, List.getElem?_map, Option.map_eq_some_iff] at hcj
   obtain ⟨c', hc', rfl⟩ := hcj
   obtain ⟨x', h1, h2⟩ := h.get hc'
   rw [hx] at h1
   cases h1
   exact h2.hand hS hm
 | v, .tup vs, h, hc => by
  rw [AV.ren] at hc ⊢
  rw [AV.high] at hc
  cases h with
  | tup c h1 h2 h3 =>
   obtain ⟨k1, k2⟩ := AT.hands hS h3 hc
   exact .tup c (by rw [h1, k1]) (fun j b hb => by
    rcases Nat.lt_or_ge j vs.length with hj | hj
    ·exact h2 j _ (List.getElem?_eq_getElem hj)
    ·rw [List.getElem?_eq_none (by omega)] at hb; cases hb) k2
 | v, .any, h, _ => .any
theorem AT.hands (hS : ∀ i b, 1000 ≤ BA id a0 i → S i = some b → S2 (BA id a0 i) = some b ∧ ι2 (BA id a0 i) = ι i) : ∀ {vs : List AV} {c : Nat → Value}, (∀ j b, vs[j]? = some b → AT σ S ι (c j) b) → AV.highs (AV.rens (BA id a0) vs) = true → vs.length = (AV.rens (BA id a0) vs).length ∧ ∀ j b, (AV.rens (BA id a0) vs)[j]? = some b → AT σ S2 ι2 (c j) b
 | [], c, h, _ => by simp [AV.rens]
 | x :: xs, c, h, hc => by
  rw [AV.rens, AV.highs, Bool.and_eq_true] at hc
  obtain ⟨m1, m2⟩ := AT.hands hS (vs := xs) (c := fun j => c (j + 1)) (fun j b hb => h (j + 1) b (by simpa using hb)) hc.2
  refine ⟨by simp [AV.rens, ← m1], fun j b hb => ?_⟩
  cases j with
  | zero =>
   simp [AV.rens] at hb
   subst hb
   exact AT.hand hS (h 0 x rfl) hc.1
  | succ j => exact m2 j b (by simpa [AV.rens] using hb)
end
end
theorem Am.stay {S S2 : AA} {ι2 : A0} (hS : ∀ i b, 1000 ≤ i → S i = some b → S2 i = some b ∧ ι2 i = ι i) {v : Value} {c : AC} (h : Am σ S ι v c) (hc : c.high = true) : Am σ S2 ι2 v c := by
 induction h with
 | st h => exact .st h
 | full h => exact .full h
 | row h1 h2 h3 h4 =>
  rw [AC.high] at hc
  obtain ⟨q1, q2⟩ := hS _ _ (of_decide_eq_true hc) h1
  exact .row q1 h2 h3 (fun hn => by rw [q2]; exact h4 hn)
 | part h1 h2 h3 h4 =>
  rw [AC.high] at hc
  obtain ⟨q1, q2⟩ := hS _ _ (of_decide_eq_true hc) h1
  exact .part q1 h2 h3 (fun hn => by rw [q2]; exact h4 hn)
 | rest h1 h2 h3 h4 =>
  rw [AC.high] at hc
  obtain ⟨q1, q2⟩ := hS _ _ (of_decide_eq_true hc) h1
  exact .rest q1 h2 h3 (fun hn => by rw [q2]; exact h4 hn)
 | ptr h1 h2 h3 h4 =>
  rw [AC.high] at hc
  obtain ⟨q1, q2⟩ := hS _ _ (of_decide_eq_true hc) h1
  exact .ptr q1 h2 h3 (fun hn => by rw [q2]; exact h4 hn)
 | mptr h1 h2 h3 h4 =>
  rw [AC.high] at hc
  obtain ⟨q1, q2⟩ := hS _ _ (of_decide_eq_true hc) h1
  exact .mptr q1 h2 h3 (fun hn => by rw [q2]; exact h4 hn)
 | yld h1 h2 h3 h4 =>
  rw [AC.high] at hc
  obtain ⟨q1, q2⟩ := hS _ _ (of_decide_eq_true hc) h1
  exact .yld q1 h2 h3 (fun hn => by rw [q2]; exact h4 hn)
 | ubool => exact .ubool
 | eptr c h1 h2 hh => exact .eptr c h1 h2 hh
 | fn c h1 h2 h3 ih =>
  rw [AC.high] at hc
  exact .fn c h1 h2 (fun j a ha => ih j a ha (Bh hc a (List.mem_of_getElem? ha)))
 | any h => exact .any h
theorem AQ.hand (R : AQ C σ ι s a w) (id a0 : Nat) {b0 : AI} (hid : id < 1000) (ha : 1000 ≤ a0) (hSa : s.S a0 = none) (hb0 : s.S id = some b0) (hbh : b0.high = true) (hb : ∀ i b, 1000 ≤ i → s.S i = some b → b.high = true) :
  AQ C σ (AO ι a0 (ι id)) ⟨fun i => (s.env i).hand id a0, AO (B6 s.S) a0 (some b0)⟩ a w ∧ ∀ i b, 1000 ≤ BA id a0 i → s.S i = some b → AO (B6 s.S) a0 (some b0) (BA id a0 i) = some b ∧ AO ι a0 (ι id) (BA id a0 i) = ι i := by
 have hlow : ∀ i, 1000 ≤ i → B6 s.S i = s.S i := fun i hi => by
  show (if i < 1000 then none else s.S i) = _
  rw [if_neg (by omega)]
 have hS : ∀ i b, 1000 ≤ BA id a0 i → s.S i = some b → AO (B6 s.S) a0 (some b0) (BA id a0 i) = some b ∧ AO ι a0 (ι id) (BA id a0 i) = ι i := fun i b hi h => by
  unfold BA at hi ⊢
  by_cases e : i = id
  ·subst e
   rw [if_pos rfl, AG, AG, ← hb0, h]
   exact ⟨rfl, rfl⟩
  ·rw [if_neg e] at hi ⊢
   have hne : i ≠ a0 := fun e => by subst e; rw [hSa] at h; cases h
   rw [AU _ hne, AU _ hne, hlow i hi]
   exact ⟨h, rfl⟩
 have hS' : ∀ i b, 1000 ≤ i → s.S i = some b → AO (B6 s.S) a0 (some b0) i = some b ∧ AO ι a0 (ι id) i = ι i := fun i b hi h => by
  have hne : i ≠ a0 := fun e => by subst e; rw [hSa] at h; cases h
  rw [AU _ hne, AU _ hne, hlow i hi]
  exact ⟨h, rfl⟩
 have hinv : ∀ i b, AO (B6 s.S) a0 (some b0) i = some b → (i = a0 ∧ b = b0) ∨ (i ≠ a0 ∧ 1000 ≤ i ∧ s.S i = some b) := fun i b h => by
  by_cases e : i = a0
  ·subst e
   rw [AG] at h
   cases h
   exact .inl ⟨rfl, rfl⟩
  ·rw [AU _ e] at h
   have h' : (if i < 1000 then none else s.S i) = some b := h
   split at h'
   ·cases h'
   ·exact .inr ⟨e, by omega, h'⟩
 refine ⟨⟨R.size, fun i hi => ?_, R.nod, R.fit, fun i b h => ?_, fun i j b c g h1 h2 g1 g2 => ?_, fun i b g h hg => ?_, R.ext, R.old, R.os, R.grown, R.same, fun i b h => ?_⟩, hS⟩
 ·show AT σ (AO (B6 s.S) a0 (some b0)) _ _ ((s.env i).hand id a0)
  unfold AV.hand
  split
  ·rename_i hh
   exact (R.env i hi).hand hS hh
  ·exact .any
 ·rcases hinv i b h with ⟨rfl, rfl⟩ | ⟨hne, h1, h2⟩
  ·rw [AG]
   exact (R.blk id _ hb0).samecells (fun v c hv hc => hv.stay hS' hc) hbh
  ·rw [AU _ hne]
   exact (R.blk i b h2).samecells (fun v c hv hc => hv.stay hS' hc) (hb i b h1 h2)
 ·rcases hinv i b h1 with ⟨rfl, rfl⟩ | ⟨hne, k1, k2⟩ <;> rcases hinv j c h2 with ⟨rfl, rfl⟩ | ⟨hne', k1', k2'⟩
  ·rfl
  ·rw [AG] at g1
   rw [AU _ hne'] at g2
   have := R.inj _ _ _ _ g hb0 k2' g1 g2
   omega
  ·rw [AG] at g2
   rw [AU _ hne] at g1
   have := R.inj _ _ _ _ g k2 hb0 g1 g2
   omega
  ·rw [AU _ hne] at g1
   rw [AU _ hne'] at g2
   exact R.inj _ _ _ _ g k2 k2' g1 g2
 ·rcases hinv i b h with ⟨rfl, rfl⟩ | ⟨hne, k1, k2⟩
  ·rw [AG] at hg
   exact R.base _ _ g hb0 hg
  ·rw [AU _ hne] at hg
   exact R.base _ _ g k2 hg
 ·obtain ⟨b', h1, h2, h3⟩ := R.upd i b h
  obtain ⟨q1, q2⟩ := hS' i b' (C.clean i b h).1 h1
  exact ⟨b', q1, h2, fun hl => ⟨(h3 hl).1, by rw [q2]; exact (h3 hl).2⟩⟩
theorem As.hand (id a0 : Nat) {b0 : AI} (hid : id < 1000) (ha : 1000 ≤ a0) (hSa : s.S a0 = none) (hb0 : s.S id = some b0) (hbh : b0.high = true) (hb : ∀ i b, 1000 ≤ i → s.S i = some b → b.high = true) : As C s ⟨fun i => (s.env i).hand id a0, AO (B6 s.S) a0 (some b0)⟩ := fun a w ⟨σ, ι, R⟩ =>
 ⟨σ, _, (R.hand id a0 hid ha hSa hb0 hbh hb).1⟩
theorem Fo {C : Ctx} {rs : List RV} {S' : AA} {e : AX} {s : AS} (he : match e with | .normal => True | .ret => True | _ => False) (id a0 : Nat) (r0 : AV) {b0 : AI} (hid : id < 1000) (ha : 1000 ≤ a0) (hSa : s.S a0 = none) (hb0 : s.S id = some b0) (hbh : b0.high = true) (hb : ∀ i b, 1000 ≤ i → s.S i = some b → b.high = true)
  (h1 : (AD s rs).map AM = some r0) (hh : (r0.ren (BA id a0)).high = true) (h3 : AO (B6 s.S) a0 (some b0) = S') (hc : A7 S') : Hj C rs (r0.ren (BA id a0)) S' e s :=
 ⟨he, s, ⟨fun i => (s.env i).hand id a0, AO (B6 s.S) a0 (some b0)⟩, r0, As.refl _ _, h1, fun σ ι a w R => ⟨σ, _, (R.hand id a0 hid ha hSa hb0 hbh hb).1, fun v hv => hv.hand (R.hand id a0 hid ha hSa hb0 hbh hb).2 hh⟩, h3, hc⟩
theorem A_ (S : AA) (i : Nat) : upS S (up1 i) = (S i).map (AI.ren up1) := by
 show (if i + 1000 < 1000 then none else (S (i + 1000 - 1000)).map (AI.ren up1)) = _
 rw [if_neg (by omega), Nat.add_sub_cancel]
theorem Oj (S : AA) (i : Nat) (b : AI) : dnS (AO S (up1 i) (some b)) = AO (dnS S) i (some (b.ren dn1)) := by
 funext k
 show (AO S (up1 i) (some b) (up1 k)).map _ = AO (dnS S) i _ k
 by_cases h : k = i
 ·subst h
  rw [AG, AG]
  rfl
 ·have hne : up1 k ≠ up1 i := fun e => h (by have := congrArg dn1 e; rw [KA, KA] at this; exact this)
  rw [AU _ hne, AU _ h]
  rfl
theorem Hv (S : AA) {i : Nat} (h : i < 1000) (b : Option AI) : B6 (AO S i b) = B6 S := by
 funext k
 show (if k < 1000 then none else AO S i b k) = (if k < 1000 then none else S k)
 split
 ·rfl
 ·exact AU _ (by omega) _
theorem BK {S : AA} (h : A7 S) {i : Nat} (hi : 1000 ≤ i) {b : AI} (hb : b.high = true) : A7 (AO S i (some b)) := fun k c hk => by
 by_cases e : k = i
 ·subst e
  rw [AG] at hk
  cases hk
  exact ⟨hi, hb⟩
 ·rw [AU _ e] at hk
  exact h k c hk
theorem F3 {S : AA} {i : Nat} (hi : i < 1000) {b : Option AI} (h : ∀ k c, 1000 ≤ k → S k = some c → c.high = true) : ∀ k c, 1000 ≤ k → AO S i b k = some c → c.high = true := fun k c hk hc => by
 rw [AU _ (by omega)] at hc
 exact h k c hk hc
end
theorem IWP.loopD {P : Program} {C : Ctx} {mu : List Nat} {Q : AX → AS → Prop} {s : AS} {x : IR} (ds : List Nat) (Inv : Nat → AS → Prop) (m0 : Nat) (h0 : Inv m0 s) (h : ∀ m s, Inv m s → IWP P C mu x (AX.then (fun s' => ∃ m', m' < m ∧ Inv m' (s'.drop ds)) Q) s) (hds : ∀ d ∈ ds, d < 1000 := by decide) : IWP P C mu (.loop x) Q s := by
 refine IWP.loop (fun m s => ∃ s1, As C s s1 ∧ Inv m s1) m0 ⟨s, As.refl _ _, h0⟩ fun m s ⟨s1, hg, hi⟩ => ?_
 refine (IWP.ghost hg (h m s1 hi)).mono fun e s2 he => ?_
 cases e with
 | normal =>
  obtain ⟨m', h1, h2⟩ := he
  exact ⟨m', h1, _, As.drop ds s2 hds, h2⟩
 | _ => exact he
theorem Am.out {σ : Sto} {S : AA} {ι : A0} {v : Value} {c : AC} (h : Am σ S ι v c) (hc : outC noS c = some c) : Am σ noS noH v c := by
 cases h with
 | st h => exact .st h
 | full h => simp [outC, stC] at hc
 | row h1 h2 h3 h4 => simp [outC, stC, noS] at hc
 | part h1 h2 h3 h4 => simp [outC, stC, noS] at hc
 | rest h1 h2 h3 h4 => simp [outC, stC, noS] at hc
 | ptr h1 h2 h3 h4 => simp [outC, stC] at hc
 | mptr h1 h2 h3 h4 => simp [outC, stC] at hc
 | yld h1 h2 h3 h4 => simp [outC, stC] at hc
 | ubool => exact .ubool
 | eptr c h1 h2 hh => exact .eptr c h1 h2 hh
 | @fn f vs caps c h1 h2 h3 =>
  cases caps with
  | nil => exact .fn c h1 h2 (by simp)
  | cons x xs =>
   have hall : (x :: xs).all AC.stay = true := by
    unfold outC at hc
    by_cases e : (x :: xs).all AC.stay = true
    ·exact e
    ·simp only [e, if_false] at hc
     cases hc
   exact .fn c h1 h2 fun j a ha => (h3 j a ha).staying (List.all_eq_true.1 hall a (List.mem_of_getElem? ha))
 | any h => simp [outC, stC] at hc
theorem HT : ∀ {cs : List AC}, outCs noS cs = some cs → ∀ c ∈ cs, outC noS c = some c
 | [], _, c, hc => by simp at hc
 | x :: xs, h, c, hc => by
  simp only [outCs] at h
  split at h
  ·rename_i y ys h1 h2
   simp only [Option.some.injEq, List.cons.injEq] at h
   obtain ⟨rfl, rfl⟩ := h
   rcases List.mem_cons.1 hc with rfl | hc
   ·exact h1
   ·exact HT h2 c hc
  ·cases h
mutual
theorem AT.out {σ : Sto} {S : AA} {ι : A0} : ∀ {v : Value} {c : AV}, AT σ S ι v c → outV noS c = some c → AT σ noS noH v c
 | v, .one c, h, hc => by
  rw [outV, Option.map_eq_some_iff] at hc
  obtain ⟨a, h1, h2⟩ := hc
  cases h2
  cases h with | one h => exact .one (h.out h1)
 | v, .agg cs, h, hc => by
  rw [outV, Option.map_eq_some_iff] at hc
  obtain ⟨a, h1, h2⟩ := hc
  cases h2
  cases h with
  | agg h => exact .agg (Ae.of_get h.len fun j x c hx hcj => by
    obtain ⟨x', q1, q2⟩ := h.get hcj
    rw [hx] at q1
    cases q1
    exact q2.out (HT h1 c (List.mem_of_getElem? hcj)))
 | v, .tup vs, h, hc => by
  rw [outV, Option.map_eq_some_iff] at hc
  obtain ⟨a, h1, h2⟩ := hc
  cases h2
  cases h with
  | tup c k1 k2 k3 => exact .tup c k1 k2 (AT.outs k3 h1)
 | v, .any, h, _ => .any
theorem AT.outs {σ : Sto} {S : AA} {ι : A0} : ∀ {vs : List AV} {c : Nat → Value}, (∀ j b, vs[j]? = some b → AT σ S ι (c j) b) → outVs noS vs = some vs → ∀ j b, vs[j]? = some b → AT σ noS noH (c j) b
 | [], c, h, _, j, b, hb => by simp at hb
 | x :: xs, c, h, hc, j, b, hb => by
  rw [outVs] at hc
  split at hc
  ·rename_i y ys h1 h2
   simp only [Option.some.injEq, List.cons.injEq] at hc
   obtain ⟨rfl, rfl⟩ := hc
   cases j with
   | zero =>
    simp at hb
    subst hb
    exact AT.out (h 0 _ rfl) h1
   | succ j => exact AT.outs (c := fun j => c (j + 1)) (fun j b hb => h (j + 1) b (by simpa using hb)) h2 j b (by simpa using hb)
  ·cases hc
end
theorem Aa.toS {P : Program} {f : FuncId} {xs : List AV} {S : AA} {r : AV} (h : Aa P f xs r) (hx : outVs noS xs = some xs) : Ag P f xs S r S := by
 intro hclean σ w vs ι hglob hfit hown hvs
 have hvs' : Ae (AT σ noS noH) vs xs := Ae.of_get hvs.len fun j v x hv hxj => by
  have := AT.outs (c := fun j => (vs[j]?).getD undef) (σ := σ) (S := S) (ι := ι) (vs := xs) (fun j b hb => by
   obtain ⟨v', h1, h2⟩ := hvs.get hb
   rw [h1]
   exact h2) hx j x hxj
  rw [hv] at this
  exact this
 refine (h σ w vs hglob hfit hvs').mono fun e w' he => ?_
 obtain ⟨v, σ', he1, he2, hf, hext, hb⟩ := he
 have hlt : ∀ id b g, S id = some b → (ι id).g = some g → g < w.heap.size := fun id b g h1 h2 => (hown.1 id b h1).gsome h2
 refine ⟨v, σ', ι, he1, hclean, Upd.refl _ _, ⟨fun id b hid => (hown.1 id b hid).mono hext.keep (Upd.refl _ _) (fun g hg => hb.block g (hlt id b g hid hg)) (fun g hg p hp => hext.old p (by have := hlt id b g hid hg; omega)), hown.2⟩,
  Lb (s := ⟨fun _ => .any, S⟩) he2, hf, hext.keep, fun p hp _ => hext.old p hp, ⟨hb.os, hb.tape, hb.output⟩, hb.size, fun g hg _ => hb.block g hg, fun id b g h1 h2 => .inr fun hn => hn id b h1 h2⟩
theorem NU {C : Ctx} {rs : List RV} {r : AV} {S' : AA} {e : AX} {s : AS} (he : match e with | .normal => True | .ret => True | _ => False) (r0 : AV) (h1 : (AD s rs).map AM = some r0) (h2 : outV s.S r0 = some r) (hb : ∀ i b, 1000 ≤ i → s.S i = some b → b.high = true) (h3 : B6 s.S = S') (hc : A7 S') : Hj C rs r S' e s := by
 refine ⟨he, s, ⟨fun i => (s.env i).low, B6 s.S⟩, r0, As.refl _ _, h1, fun σ ι a w R => ?_, h3, hc⟩
 exact ⟨σ, ι, R.low hb, fun v hv => Lb (s := ⟨fun i => (s.env i).low, B6 s.S⟩) (R.outV hv h2)⟩
theorem IT {C : Ctx} {rs : List RV} {r : AV} {S' : AA} {e : AX} {s : AS} (he : match e with | .normal => True | .ret => True | _ => False) (h1 : (AD s rs).map AM = some r) (hh : r.high = true) (hb : ∀ i b, 1000 ≤ i → s.S i = some b → b.high = true) (h3 : B6 s.S = S') (hc : A7 S') : Hj C rs r S' e s :=
 ⟨he, s, ⟨fun i => (s.env i).low, B6 s.S⟩, r, As.refl _ _, h1, fun σ ι a w R => ⟨σ, ι, R.low hb, fun v hv => hv.low (fun i b hi hS => by
  show B6 s.S i = some b
  unfold B6
  rw [if_neg (by omega)]
  exact hS) hh⟩, h3, hc⟩
theorem Ab {C : Ctx} {rs : List RV} {r : AV} {e : AX} {s : AS} {S : AA} (r0 : AV) (hS : A7 S) (he : match e with | .normal => True | .ret => True | _ => False)
  (h1 : (AD s rs).map AM = some r0) (h2 : outV s.S r0 = some r) (h4 : ∀ i, 1000 ≤ i → s.S i = S i) : Hj C rs r S e s :=
 NU he r0 h1 h2 (fun i b hi hb => (hS i b (by rw [← h4 i hi]; exact hb)).2) (by
  funext i
  unfold B6
  split
  ·exact (AR hS (by omega)).symm
  ·exact h4 i (by omega)) hS
theorem LM {C : Ctx} {rs : List RV} {r : AV} {S' : AA} {e : AX} {s s1 : AS} (hg : As C s s1) (h : Hj C rs r S' e s1) : Hj C rs r S' e s := by
 obtain ⟨he, s2, s3, r0, h1, h2⟩ := h
 exact ⟨he, s2, s3, r0, hg.trans h1, h2⟩
theorem Pg {C : Ctx} {rs : List RV} {e : AX} {s : AS} {ty : TypeId} {w n : Nat} {ys : List (List SV)} {mu : Bool} (he : match e with | .normal => True | .ret => True | _ => False) (id : Nat) (hid : id < 1000) (hb0 : s.S id = some (F9 mu ty w ys)) (hlow : ∀ i, 1000 ≤ i → s.S i = none)
  (h1 : (AD s rs).map AM = some (.one (.row id n))) : Hj C rs (.one (.row 1000 n)) (fun i => if i = 1000 then some (F9 mu ty w ys) else noS i) e s := by
 have e1 : (AV.one (.row id n)).ren (BA id 1000) = .one (.row 1000 n) := by simp [AV.ren, AC.ren, BA]
 rw [← e1]
 refine Fo he id 1000 _ hid (by decide) (hlow 1000 (by decide)) hb0 (by cases mu <;> rfl) (fun i b hi hb => by rw [hlow i hi] at hb; cases hb) h1 (by rw [e1]; rfl) ?_ ?_
 ·funext i
  unfold AO B6 noS
  by_cases h2 : i = 1000
  ·rw [if_pos h2, if_pos h2]
  ·rw [if_neg h2, if_neg h2]
   split
   ·rfl
   ·exact hlow i (by omega)
 ·intro i b hb
  have hb : (if i = 1000 then some (F9 mu ty w ys) else noS i) = some b := hb
  split at hb
  ·rename_i h2
   cases hb
   exact ⟨by omega, by cases mu <;> rfl⟩
  ·cases hb

theorem MK (c P Q : Prop) [Decidable c] : ((c → P) ∧ (¬ c → Q)) = if c then P else Q := by
 by_cases h : c <;> simp [h]
theorem N5 {c A B : Prop} [Decidable c] (h : (c → A) ∧ (¬ c → B)) : if c then A else B := by
 by_cases hc : c
 ·rw [if_pos hc]; exact h.1 hc
 ·rw [if_neg hc]; exact h.2 hc
theorem Nm (b : Bool) (P Q : Prop) : ((b = true → P) ∧ (b = false → Q)) = if b = true then P else Q := by
 cases b <;> simp
attribute [congr] Kl.congr Fm.congr
mutual
def MU : Tm → List SV
 | .mk n xs => [.str n, .list (Lx xs)]
def Lx : List Tm → List (List SV)
 | [] => []
 | t :: ts => MU t :: Lx ts
end
theorem Ko : ∀ xs : List Tm, Lx xs = xs.map MU
 | [] => rfl
 | t :: ts => by rw [Lx, Ko ts]; rfl
theorem LZ (t : Tm) : MU t = [.str t.name, .list (t.args.map MU)] := by
 cases t
 rw [MU, Ko]
 rfl
class Ph {α : Type} (f : α → List SV) (n : outParam Nat) : Prop where
 ok : ∀ a, (f a).length = n
theorem Pv {α : Type} {f : α → List SV} {n : Nat} [h : Ph f n] {ts : List α} : ∀ x ∈ ts.map f, x.length = n := fun x hx => by
 obtain ⟨a, _, rfl⟩ := List.mem_map.1 hx
 exact h.ok a
instance : Ph MU 2 := ⟨fun t => by rw [LZ]; rfl⟩
theorem Tm.args_mk (n : ByteArray) (xs : List Tm) : (Tm.mk n xs).args = xs := rfl
theorem Tm.name_mk (n : ByteArray) (xs : List Tm) : (Tm.mk n xs).name = n := rfl
abbrev AK (n : Int) : AV := .one (.st (.int .i64 n))
abbrev An (b : Bool) : AV := .one (.st (.bool b))
abbrev B1 (n : Int) : List SV := [.int .i64 n]
abbrev Lf (l : List Int) : AV := .one (.st (.list (l.map B1)))
theorem Ak {α : Type} {xs : List α} {k : Nat} (h : k < xs.length) : ∃ a, xs[k]? = some a := ⟨xs[k], List.getElem?_eq_getElem h⟩
theorem FN (n : Int) : inR .i64 n ↔ -9223372036854775808 ≤ n ∧ n ≤ 9223372036854775807 := by
 simp [inR, IntKind.min, IntKind.max, IntKind.signed, IntKind.bits]
theorem Fn : maxLen = 9223372036854775807 := by simp [maxLen]
theorem Cp {S : AA} {xs : List (List SV)} (h : (AV.one (.st (.list xs))).known S) : xs.length ≤ 9223372036854775807 := by
 simp only [AV.known, AC.known, SV.known] at h
 rw [Fn] at h
 exact h.1

def Kd.isCall : Kd → Bool
 | .call _ _ => true
 | .callS _ _ => true
 | .callV _ _ => true
 | .callN _ _ => true
 | .callR _ _ => true
 | .callW _ _ => true
 | .callX _ _ => true
 | .callY _ _ => true
 | .buildFlat _ => false
 | .cutP _ _ _ => false
 | .indexP _ _ _ => false
 | .appP _ _ _ _ _ => false
 | .restP _ _ _ => false
 | .appS _ _ _ => false
 | .loadL _ _ _ => false
 | .indexL _ _ _ => false
 | .buildL _ _ => false
 | .fieldL _ _ => false
 | .lenL _ _ => false
 | .appF _ _ _ _ _ _ => false
 | .clearP _ _ _ _ => false
 | .copyP _ _ => false
 | .mov _ => false
 | .pick _ _ _ => false
 | .alloc _ _ => false
 | .box _ _ => false
 | .build _ _ => false
 | .buildSlice _ _ _ _ => false
 | .load _ _ _ => false
 | .store _ _ _ => false
 | .fieldAddr _ _ => false
 | .field _ _ _ _ => false
 | .indexAddr _ _ _ => false
 | .indexArr _ _ _ _ => false
 | .indexStr _ _ => false
 | .bin _ _ _ => false
 | .eqB _ _ _ => false
 | .eqN _ _ => false
 | .eqE _ _ => false
 | .eqP _ _ => false
 | .bits _ _ _ => false
 | .never => false
 | .pan _ => false
 | .iface _ _ => false
 | .strOf _ _ => false
 | .un _ _ => false
 | .sliceS _ _ _ => false
 | .sliceL _ _ _ _ => false
 | .sliceM _ _ _ _ => false
 | .extract _ _ => false
 | .len _ _ => false
 | .append _ _ _ _ _ _ => false
 | .conv _ _ => false
 | .nilCheck _ => false
 | .mm _ _ _ => false
 | .makeSlice _ _ _ _ _ _ => false
 | .makeFunc _ _ => false
 | .makeMap _ => false
 | .lookup _ _ _ _ _ => false
 | .mapSet _ _ _ _ => false
 | .mapEntry _ _ _ _ => false
 | .entrySet _ _ _ => false
 | .rangeM _ => false
 | .next _ => false
 | .entry _ => false
 | .lenM _ => false
 | .buildArr _ => false
 | .makeMemo => false
 | .memoGet _ _ _ _ => false
 | .memoSet _ _ _ => false
inductive PC (P : Program) (f : FuncId) (vs : List AV) (d : Option Nat) (l : List Ins) (s : AS) (K : AS → Prop) : Prop
 | mk (r : AV) (h1 : Aa P f vs r) (h2 : Run P l (s.put d r) K)
inductive JG (P : Program) (f : FuncId) (vs : List AV) (S : AA) (ks : List Nat) (d : Option Nat) (l : List Ins) (env : Nat → AV) (K : AS → Prop) : Prop
 | mk (r : AV) (S' : AA) (h1 : Ag P f vs (upS S) r S') (h2 : (∀ k ∈ ks, dnS S' k = S k) ∧ Run P l ((⟨env, dnS S'⟩ : AS).put d (r.ren dn1)) K)
inductive NG (P : Program) (f : FuncId) (vs : List AV) (ks : List Nat) (d : Option Nat) (l : List Ins) (s : AS) (K : AS → Prop) : Prop
 | mk (mu : Bool) (e : TypeId) (w : Nat) (ys : List (List SV)) (h1 : Gm P f vs e w ys mu) (h2 : s.S (d.getD 0) = none ∧ (∀ k ∈ ks, (s.set (d.getD 0) (F9 mu e w ys)).S k = s.S k) ∧ Run P l ((s.set (d.getD 0) (F9 mu e w ys)).put d (.one (.row (d.getD 0) ys.length))) K)
inductive PQ (P : Program) (f : FuncId) (vs : List AV) (d : Option Nat) (l : List Ins) (s : AS) (K : AS → Prop) : Prop
 | mk (r : AV) (rows : List (Nat × AI)) (h0 : ∀ q ∈ rows, s.S q.1 = some q.2) (h1 : ∀ T : AA, (∀ q ∈ rows, T q.1 = some q.2) → Ag P f vs (upS T) r (upS T)) (h2 : Run P l (s.put d (r.ren dn1)) K)
inductive M4 (P : Program) (f : FuncId) (vs : List AV) (ks : List Nat) (d : Option Nat) (l : List Ins) (s : AS) (K : AS → Prop) : Prop
 | mk (r : AV) (rows : List (Nat × AI × AI)) (h0 : EH s.S rows) (h1 : ∀ T : AA, EH T rows → Ag P f vs (upS T) r (upS (Bw T rows))) (h2 : (∀ k ∈ ks, Bw s.S rows k = s.S k) ∧ Run P l ((⟨s.env, Bw s.S rows⟩ : AS).put d (r.ren dn1)) K)
inductive Ix (P : Program) (S : AA) (hs : Bool) (G : AA → (AV → AA → Prop) → Prop) (d : Option Nat) (l : List Ins) (env : Nat → AV) (K : AS → Prop) : Prop
 | mk (T : AA) (Post : AV → AA → Prop) (h1 : A7 T) (h2 : ∀ i, 1000 ≤ i → S i = T i) (h3 : hs = true) (h4 : G T Post) (h5 : ∀ r S', A7 S' → Post r S' → Run P l ((⟨env, BI S S'⟩ : AS).put d r) K)
theorem KE {S : AA} {i : Nat} {b c : AI} (h : S i = some b) : EH S [(i, b, c)] := fun q hq => by rw [List.mem_singleton.1 hq]; exact h
theorem Lg {S : AA} {i : Nat} {b c : AI} (h : EH S [(i, b, c)]) : S i = some b := h _ (List.mem_singleton.2 rfl)
theorem NP {S : AA} {i j : Nat} {b c d e : AI} (h : S i = some b) (h' : S j = some d) : EH S [(i, b, c), (j, d, e)] := fun q hq => by
 rcases List.mem_cons.1 hq with rfl | hq
 ·exact h
 ·rw [List.mem_singleton.1 hq]; exact h'
theorem Cw {S : AA} {i j : Nat} {b c : AI} (h : S i = some b) (h' : S j = some c) : ∀ q ∈ [(i, b), (j, c)], S q.1 = some q.2 := fun q hq => by
 rcases List.mem_cons.1 hq with rfl | hq
 ·exact h
 ·rw [List.mem_singleton.1 hq]; exact h'
def Kd.goC (P : Program) (d : Option Nat) (s : AS) (t : Tag) (l : List Ins) (K : AS → Prop) : Kd → Prop
 | .call f xs => match t with
  | .no => match outVs s.S (s.evs xs) with
   | some vs => PC P f vs d l s K
   | none => False
  | _ => False
 | .callR f xs => match t with
  | .no => PQ P f (AV.rens up1 (s.evs xs)) d l s K
  | _ => False
 | .callW f xs => match t with
  | .no => M4 P f (AV.rens up1 (s.evs xs)) [] d l s K
  | .keeps ks => M4 P f (AV.rens up1 (s.evs xs)) ks d l s K
  | .onb _ => False
 | .callX f xs => match t with
  | .no => Ix P s.S (AV.highs ((s.evs xs).map (Cn s.S))) (Gu P f ((s.evs xs).map (Cn s.S))) d l s.env K
  | _ => False
 | .callY f xs => match t with
  | .no => Ix P s.S ((s.ev f).high && AV.highs ((s.evs xs).map (Cn s.S))) (Lr P (s.ev f) ((s.evs xs).map (Cn s.S))) d l s.env K
  | _ => False
 | .callN f xs => match t with
  | .no => match outVs s.S (s.evs xs) with
   | some vs => NG P f vs [] d l s K
   | none => False
  | .keeps ks => match outVs s.S (s.evs xs) with
   | some vs => NG P f vs ks d l s K
   | none => False
  | .onb _ => False
 | .callS f xs => match t with
  | .no => JG P f (AV.rens up1 (s.evs xs)) s.S [] d l s.env K
  | .keeps ks => JG P f (AV.rens up1 (s.evs xs)) s.S ks d l s.env K
  | .onb _ => False
 | .callV f xs => match (s.ev f).fnOf with
  | some (g, caps) => CV P g = true ∧ match t with
   | .no => JG P g (AV.rens up1 (s.evs xs ++ caps.map .one)) s.S [] d l s.env K
   | .keeps ks => JG P g (AV.rens up1 (s.evs xs ++ caps.map .one)) s.S ks d l s.env K
   | .onb _ => False
  | _ => False
 | _ => False
def E4 (P : Program) : List Ins → AS → (AS → Prop) → Prop
 | [], s, K => K s
 | i :: l, s, K => match i.kd.isCall with
  | false => match i.guard with
   | none => i.kd.goT P (i.dst.getD 0) s i.tag fun v s' => E4 P l (s'.put i.dst v) K
   | some (g, want) => match s.env g with
    | .one (.st (.bool b)) => (b = want → i.kd.goT P (i.dst.getD 0) s i.tag fun v s' => E4 P l (s'.put i.dst v) K) ∧ (¬ b = want → E4 P l (s.put i.dst (.tup [])) K)
    | .tup [] => E4 P l (s.put i.dst (.tup [])) K
    | _ => False
  | true => match i.guard with
   | none => i.kd.goC P i.dst s i.tag l K
   | some (g, want) => match s.env g with
    | .one (.st (.bool b)) => (b = want → i.kd.goC P i.dst s i.tag l K) ∧ (¬ b = want → E4 P l (s.put i.dst (.tup [])) K)
    | .tup [] => E4 P l (s.put i.dst (.tup [])) K
    | _ => False
section
variable {P : Program}
theorem Lv {kd : Kd} {d : Option Nat} {s : AS} {t : Tag} {l : List Ins} {K : AS → Prop} (h : kd.goC P d s t l K) : kd.goT P (d.getD 0) s t fun v s' => Run P l (s'.put d v) K := by
 cases kd <;> simp only [Kd.goC] at h
 case call f xs =>
  cases t <;> simp only at h
  split at h
  ·rename_i vs e
   obtain ⟨r, h1, h2⟩ := h
   simp only [Kd.goT, Kd.go, e]
   exact ⟨r, h1, trivial, h2⟩
  ·exact h.elim
 case callN f xs =>
  cases t <;> simp only at h
  ·split at h
   ·rename_i vs e
    obtain ⟨mu, ty, w, ys, h1, h2, _, h3⟩ := h
    simp only [Kd.goT, Kd.go, e]
    exact ⟨mu, ty, w, ys, h1, h2, trivial, h3⟩
   ·exact h.elim
  ·split at h
   ·rename_i vs e
    obtain ⟨mu, ty, w, ys, h1, h2, h4, h3⟩ := h
    simp only [Kd.goT, Kd.go, e]
    exact ⟨mu, ty, w, ys, h1, h2, h4, h3⟩
   ·exact h.elim
 case callW f xs =>
  cases t <;> simp only at h
  ·obtain ⟨r, rows, h0, h1, _, h2⟩ := h
   simp only [Kd.goT, Kd.go]
   exact ⟨r, rows, h0, h1, trivial, h2⟩
  ·obtain ⟨r, rows, h0, h1, hk, h2⟩ := h
   simp only [Kd.goT, Kd.go]
   exact ⟨r, rows, h0, h1, hk, h2⟩
 case callX f xs =>
  cases t <;> simp only at h
  obtain ⟨T, Post, h1, h2, h3, h4, h5⟩ := h
  exact ⟨T, Post, h1, h2, h3, h4, fun r S' k1 k2 => ⟨trivial, h5 r S' k1 k2⟩⟩
 case callY f xs =>
  cases t <;> simp only at h
  obtain ⟨T, Post, h1, h2, h3, h4, h5⟩ := h
  exact ⟨T, Post, h1, h2, h3, h4, fun r S' k1 k2 => ⟨trivial, h5 r S' k1 k2⟩⟩
 case callR f xs =>
  cases t <;> simp only at h
  obtain ⟨r, rows, h0, h1, h2⟩ := h
  simp only [Kd.goT, Kd.go]
  exact ⟨r, rows, h0, h1, trivial, h2⟩
 case callS f xs =>
  cases t <;> simp only at h
  ·obtain ⟨r, S', h1, h2, h3⟩ := h
   exact ⟨r, S', h1, trivial, h3⟩
  ·obtain ⟨r, S', h1, h2, h3⟩ := h
   exact ⟨r, S', h1, h2, h3⟩
 case callV f xs =>
  split at h
  ·rename_i g caps e
   obtain ⟨hp, h⟩ := h
   cases t <;> simp only at h
   ·obtain ⟨r, S', h1, h2, h3⟩ := h
    simp only [Kd.goT, Kd.go, e]
    exact ⟨hp, r, S', h1, trivial, h3⟩
   ·obtain ⟨r, S', h1, h2, h3⟩ := h
    simp only [Kd.goT, Kd.go, e]
    exact ⟨hp, r, S', h1, h2, h3⟩
  ·exact h.elim
theorem Bs : ∀ {l : List Ins} {s : AS} {K : AS → Prop}, E4 P l s K → Run P l s K
 | [], s, K, h => h
 | i :: l, s, K, h => by
  unfold E4 at h
  unfold Run
  split at h
  ·split at h
   ·rename_i e
    simp only [e]
    exact DM h fun v s' _ h' => Bs h'
   ·rename_i g want e
    simp only [e]
    split at h
    ·rename_i b e2
     simp only [e2]
     exact ⟨fun hb => DM (h.1 hb) fun v s' _ h' => Bs h', fun hb => Bs (h.2 hb)⟩
    ·rename_i e2
     simp only [e2]
     exact Bs h
    ·exact h.elim
  ·split at h
   ·rename_i e
    simp only [e]
    exact Lv h
   ·rename_i g want e
    simp only [e]
    split at h
    ·rename_i b e2
     simp only [e2]
     exact ⟨fun hb => Lv (h.1 hb), fun hb => Bs (h.2 hb)⟩
    ·rename_i e2
     simp only [e2]
     exact Bs h
    ·exact h.elim
theorem F8 {l : List Ins} {s : AS} {K : AS → Prop} {A : Prop} (h : A ∧ E4 P l s K) : A ∧ Run P l s K := ⟨h.1, Bs h.2⟩
theorem IWP.ops2 {C : Ctx} {mu : List Nat} {Q : AX → AS → Prop} {s : AS} {l : List Ins} (h : ∀ K : AS → Prop, (∀ s, Q .normal s → K s) → E4 P l s K) : IWP P C mu (.ops l) Q s := IWP.opsK fun K hK => Bs (h K hK)
end
attribute [go_sem] Ok N3 NA If Ins.i Ins.m Ins.L Ins.l Ins.f Ins.s Opd.n F9 Bw E4 Kd.isCall Kd.goC Kd.goT Tag.ok Kd.ptrOpd EF List.forall_mem_cons List.not_mem_nil Kd.go AS.ev AS.evs AS.put AS.set AO AV.cells fills Cj ET stP NK stC stCs outC outCs outV outVs GK Bm Bp B7 Ni C_ MM Mr optI HW splice AI.len AS.start AS.startS noS List.getElem?_cons_zero List.getElem?_cons_succ List.getElem?_nil List.getElem?_map Option.isSome_none Option.isSome_some Option.map_some Option.map_none Option.getD_some Option.getD_none List.length_map List.length_cons List.length_nil List.length_append List.map_cons List.map_nil List.take_succ_cons List.take_zero List.take_nil List.drop_succ_cons List.drop_zero List.drop_nil List.nil_append List.cons_append List.append_nil Nat.zero_add Nat.add_zero Nat.le_refl Nat.zero_le if_true if_false Bool.false_eq_true true_and and_true Option.some.injEq Int.toNat_natCast Int.natCast_nonneg Int.ofNat_eq_natCast ite_self decide_true decide_false not_true_eq_false not_false_eq_true true_implies false_implies implies_true Bool.true_eq_false eq_self Bool.not_true Bool.not_false beq_self_eq_true Tm.args_mk Tm.name_mk AV.rens AV.ren AC.ren AC.rens AI.ren A_ KA Oj K5
theorem C7 (T : AA) (i : Nat) (b : AI) : upS (AO T i (some b)) = AO (upS T) (up1 i) (some (b.ren up1)) := by
 funext k
 show (if k < 1000 then none else (AO T i (some b) (k - 1000)).map (AI.ren up1)) = _
 by_cases e : k = up1 i
 ·subst e
  rw [AG, if_neg (by have := BE i; omega), show up1 i - 1000 = i from KA i, AG]
  rfl
 ·rw [AU _ e]
  by_cases hk : k < 1000
  ·rw [if_pos hk]
   show none = if k < 1000 then none else _
   rw [if_pos hk]
  ·rw [if_neg hk, AU _ (fun h => e (by rw [← h]; exact (Lp (by omega)).symm))]
   show _ = if k < 1000 then none else _
   rw [if_neg hk]
abbrev Wo := @IWP.ops2
abbrev Wp := @IWP.cond
abbrev Wq := @Bs
abbrev Wr := @F8
abbrev iC := @N5
abbrev Cg := @PC.mk
abbrev dT := @decide_eq_true_eq
abbrev dF := @decide_eq_false_iff_not
abbrev nL := @Int.ofNat_lt
abbrev eT := @LZ
abbrev iR := @FN
attribute [go_sem ↓] MK Nm
theorem Ai {a b : Prop} (k : b) (h : a := by first | omega | exact Pv | (simp [Fn] <;> omega)) : a ∧ b := ⟨h, k⟩
theorem Z0 {id id' : Nat} {Q : AX → AS → Prop} {s : AS} (h : Q (.exit id') s) (hne : id' ≠ id := by decide) : AX.inBlock id Q (.exit id') s := Io hne h
theorem fN {α : Type} (p : α → Prop) : ∀ x ∈ ([] : List α), p x := List.forall_mem_nil p
class FV (goal : Prop) (prev : outParam Prop) : Prop where
 imp : prev → goal
theorem W {goal prev : Prop} [s : FV goal prev] (h : prev) : goal := s.imp h
section
variable {P : Program} {C : Ctx} {mu : List Nat} {x y : IR} {Q : AX → AS → Prop} {s : AS} {id : Nat} {K : AS → Prop}
instance : FV (IWP P C mu (.seq x y) Q s) (IWP P C mu x (Kb P C mu y Q) s) := ⟨IWP.seq⟩
instance : FV (Kb P C mu y Q .normal s) (IWP P C mu y Q s) := ⟨GI⟩
instance : FV (IWP P C mu (.block id x) Q s) (IWP P C mu x (AX.inBlock id Q) s) := ⟨IWP.block⟩
instance : FV (IWP P C mu .skip Q s) (Q .normal s) := ⟨IWP.skip⟩
instance : FV (IWP P C mu (.exit id) Q s) (Q (.exit id) s) := ⟨IWP.exit⟩
instance : FV (IWP P C mu .ret Q s) (Q .ret s) := ⟨IWP.ret⟩
instance : FV (Kb P C mu y Q (.exit id) s) (Q (.exit id) s) := ⟨MD⟩
instance : FV (Kb P C mu y Q .ret s) (Q .ret s) := ⟨OA⟩
instance : FV (AX.inBlock id Q .normal s) (Q .normal s) := ⟨HB⟩
instance : FV (AX.inBlock id Q (.exit id) s) (Q .normal s) := ⟨JL⟩
instance : FV (AX.inBlock id Q .ret s) (Q .ret s) := ⟨Kr⟩
instance : FV (AX.then K Q (.exit id) s) (Q (.exit id) s) := ⟨Mf⟩
instance : FV (AX.then K Q .ret s) (Q .ret s) := ⟨Ng⟩
class OO (goal : Prop) (prev : outParam Prop) : Prop where
 imp : prev → goal
class NJ (goal : Prop) (prev : outParam Prop) : Prop where
 imp : prev → goal
theorem U {goal prev : Prop} [s : OO goal prev] (h : prev) : goal := s.imp h
instance {l : List Ins} : OO (Run P l s K) (E4 P l s K) := ⟨Bs⟩
instance {l : List Ins} {A : Prop} : OO (A ∧ Run P l s K) (A ∧ E4 P l s K) := ⟨F8⟩
instance {l : List Ins} : NJ (Run P l s K) (E4 P l s K) := ⟨Bs⟩
instance {l : List Ins} {A : Prop} : NJ (A ∧ Run P l s K) (A ∧ E4 P l s K) := ⟨F8⟩
instance {c0 : Opd} : NJ (IWP P C mu (.cond c0 x y) Q s) (match s.ev c0 with | .one (.st (.bool b)) => (b = true → IWP P C mu x Q s) ∧ (b = false → IWP P C mu y Q s) | .one .ubool => IWP P C mu x Q s ∧ IWP P C mu y Q s | _ => False) := ⟨IWP.cond⟩
end
abbrev Y := @And.intro
theorem IWP.fresh {P : Program} {C : Ctx} {mu : List Nat} {x : IR} {Q : AX → AS → Prop} {s : AS} (h1000 : ∀ i, 1000 ≤ i → s.S i = none) (h : ∀ env' : Nat → AV, (∀ i v, s.env i = .one (.st v) → env' i = .one (.st v)) → IWP P C mu x Q ⟨env', noS⟩) : IWP P C mu x Q s := by
 refine IWP.ghost (As.low (s := s) fun i b hi hb => by rw [h1000 i hi] at hb; cases hb) ?_
 have e : B6 s.S = noS := by
  funext i
  show (if i < 1000 then none else s.S i) = none
  split
  ·rfl
  ·exact h1000 i (by omega)
 rw [e]
 exact h _ fun i v hv => by rw [hv]; rfl



inductive Lm where
 | mk (kind idx : Int) (subs : List Lm)
def Lm.kind : Lm → Int | .mk k _ _ => k
def Lm.idx : Lm → Int | .mk _ i _ => i
def Lm.subs : Lm → List Lm | .mk _ _ xs => xs
theorem Lm.kind_mk (k i : Int) (xs : List Lm) : (Lm.mk k i xs).kind = k := rfl
theorem Lm.idx_mk (k i : Int) (xs : List Lm) : (Lm.mk k i xs).idx = i := rfl
theorem Lm.subs_mk (k i : Int) (xs : List Lm) : (Lm.mk k i xs).subs = xs := rfl
mutual
def Ac : Lm → List SV
 | .mk k i xs => [.int .i64 k, .int .i64 i, .list (Ly xs)]
def Ly : List Lm → List (List SV)
 | [] => []
 | t :: ts => Ac t :: Ly ts
end
theorem Jq : ∀ xs : List Lm, Ly xs = xs.map Ac
 | [] => rfl
 | t :: ts => by rw [Ly, Jq ts]; rfl
theorem AB (t : Lm) : Ac t = [.int .i64 t.kind, .int .i64 t.idx, .list (t.subs.map Ac)] := by
 cases t
 rw [Ac, Jq]
 rfl
theorem KO (t : Lm) : (Ac t).length = 3 := by rw [AB]; rfl
instance : Ph Ac 3 := ⟨KO⟩
theorem Bn {ts : List Lm} : ∀ x ∈ ts.map Ac, x.length = 3 := by
 intro x hx
 obtain ⟨a, _, rfl⟩ := List.mem_map.1 hx
 exact KO a
abbrev aLm (t : Lm) : AV := .agg [.st (.int .i64 t.kind), .st (.int .i64 t.idx), .st (.list (t.subs.map Ac))]
abbrev A1 (l : List Lm) : AV := .one (.st (.list (l.map Ac)))
theorem HL {S : AA} {t : Lm} (h : (aLm t).known S) : (-9223372036854775808 ≤ t.kind ∧ t.kind ≤ 9223372036854775807) ∧ (-9223372036854775808 ≤ t.idx ∧ t.idx ≤ 9223372036854775807) ∧ t.subs.length ≤ 9223372036854775807 := by
 have h1 : inR .i64 t.kind := by
  have := h (.st (.int .i64 t.kind)) (by simp)
  simpa [AC.known, SV.known] using this
 have h2 : inR .i64 t.idx := by
  have := h (.st (.int .i64 t.idx)) (by simp)
  simpa [AC.known, SV.known] using this
 have h3 : t.subs.length ≤ maxLen := by
  have := h (.st (.list (t.subs.map Ac))) (by simp)
  simp only [AC.known, SV.known, List.length_map] at this
  exact this.1
 rw [FN] at h1 h2
 rw [Fn] at h3
 exact ⟨h1, h2, h3⟩
theorem Lm.lt_of_mem {a : Lm} {k i : Int} {xs : List Lm} (h : a ∈ xs) : SizeOf.sizeOf a < SizeOf.sizeOf (Lm.mk k i xs) := by
 have := List.sizeOf_lt_of_mem h
 simp only [Lm.mk.sizeOf_spec]
 omega
theorem Lm.lt_of_sub {a t : Lm} (h : a ∈ t.subs) : SizeOf.sizeOf a < SizeOf.sizeOf t := by
 cases t
 exact Lm.lt_of_mem h
attribute [go_sem] Lm.kind_mk Lm.idx_mk Lm.subs_mk AB
mutual
def Lm.size : Lm → Nat
 | .mk _ _ xs => 1 + Lm.sizes xs
def Lm.sizes : List Lm → Nat
 | [] => 0
 | t :: ts => t.size + Lm.sizes ts
end
theorem Lm.sizes_append (xs ys : List Lm) : Lm.sizes (xs ++ ys) = Lm.sizes xs + Lm.sizes ys := by
 induction xs with
 | nil => simp [Lm.sizes]
 | cons t ts ih => simp only [List.cons_append, Lm.sizes, ih]; omega
theorem Lm.sizes_take {xs : List Lm} {k : Nat} {a : Lm} (h : xs[k]? = some a) : Lm.sizes (xs.take (k+1)) = Lm.sizes (xs.take k) + a.size := by
 rw [Al h, Lm.sizes_append]; simp [Lm.sizes]
theorem Lm.sizes_take_le (xs : List Lm) (k : Nat)  : Lm.sizes (xs.take k) ≤ Lm.sizes xs := by
 have := Lm.sizes_append (xs.take k) (xs.drop k)
 rw [List.take_append_drop] at this
 omega
theorem Lm.size_eq (t : Lm) : t.size = 1 + Lm.sizes t.subs := by cases t; rfl
theorem Lm.size_pos (t : Lm) : 1 ≤ t.size := by rw [Lm.size_eq]; omega
theorem Lm.size_mem {a : Lm} {xs : List Lm} (h : a ∈ xs) : a.size ≤ Lm.sizes xs := by
 induction xs with
 | nil => simp at h
 | cons t ts ih =>
  rcases List.mem_cons.1 h with rfl | h
  ·simp only [Lm.sizes]; omega
  ·have := ih h; simp only [Lm.sizes]; omega
theorem Lm.size_sub {a t : Lm} (h : a ∈ t.subs) : a.size + 1 ≤ t.size := by
 have := Lm.size_mem h
 rw [Lm.size_eq t]
 omega
theorem Lm.length_le (xs : List Lm) : xs.length ≤ Lm.sizes xs := by
 induction xs with
 | nil => simp [Lm.sizes]
 | cons t ts ih => have := Lm.size_pos t; simp only [Lm.sizes, List.length_cons]; omega
def BX (k : Int) : Int := if k = 2 then 1 else if k = 3 then 2 else 0
def Ca (k u m : Int) : Int := if k = 1 then u else if k = 4 then 40 else if k = 5 then m else 1
def Af (k u : Int) : Int := if k = 2 then u + 1 else u
mutual
def Lm.chk (m : Int) : Lm → Int → Int
 | .mk k i xs, u => if 1 ≤ k ∧ k ≤ 5 ∧ (xs.length : Int) = BX k then (if 0 ≤ i ∧ i < Ca k u m then Lm.chks m xs (Af k u) else 15) else 2
def Lm.chks (m : Int) : List Lm → Int → Int
 | [], _ => 0
 | t :: ts, u => if t.chk m u = 0 then Lm.chks m ts u else t.chk m u
end
theorem Lm.chk_eq (m : Int) (t : Lm) (u : Int) : t.chk m u = if 1 ≤ t.kind ∧ t.kind ≤ 5 ∧ (t.subs.length : Int) = BX t.kind then (if 0 ≤ t.idx ∧ t.idx < Ca t.kind u m then Lm.chks m t.subs (Af t.kind u) else 15) else 2 := by cases t; rfl
theorem Lm.chks_append (m u : Int) (xs ys : List Lm) : Lm.chks m (xs ++ ys) u = if Lm.chks m xs u = 0 then Lm.chks m ys u else Lm.chks m xs u := by
 induction xs with
 | nil => simp [Lm.chks]
 | cons t ts ih =>
  simp only [List.cons_append, Lm.chks]
  by_cases h : t.chk m u = 0
  ·simp only [h, if_true, ih]
  ·simp only [h, if_false]
theorem Lm.chks_take {m u : Int} {xs : List Lm} {k : Nat} {a : Lm} (h : xs[k]? = some a) (h0 : Lm.chks m (xs.take k) u = 0) : Lm.chks m (xs.take (k+1)) u = a.chk m u := by
 rw [Al h, Lm.chks_append, if_pos h0]
 simp only [Lm.chks]
 split <;> simp_all
theorem Lm.chks_bad {m u : Int} {xs : List Lm} {k : Nat} (h0 : Lm.chks m (xs.take k) u ≠ 0) : Lm.chks m xs u = Lm.chks m (xs.take k) u := by
 have := Lm.chks_append m u (xs.take k) (xs.drop k)
 rw [List.take_append_drop, if_neg h0] at this
 exact this
mutual
def Lm.good (b : Int) : Lm → Prop
 | .mk k i xs => (k = 1 → xs = []) ∧ 0 ≤ i ∧ i ≤ b ∧ Lm.goods b xs
def Lm.goods (b : Int) : List Lm → Prop
 | [] => True
 | t :: ts => t.good b ∧ Lm.goods b ts
end
theorem Lm.good_eq (b : Int) (t : Lm) : t.good b ↔ ((t.kind = 1 → t.subs = []) ∧ 0 ≤ t.idx ∧ t.idx ≤ b ∧ Lm.goods b t.subs) := by cases t; exact Iff.rfl
theorem Lm.goods_mem {b : Int} {xs : List Lm} (h : Lm.goods b xs) : ∀ t ∈ xs, t.good b := by
 induction xs with
 | nil => intro t ht; simp at ht
 | cons x xs ih =>
  intro t ht
  rcases List.mem_cons.1 ht with rfl | ht
  ·exact h.1
  ·exact ih h.2 t ht
theorem Lm.good_sub {b : Int} {t a : Lm} (h : t.good b) (ha : a ∈ t.subs) : a.good b := Lm.goods_mem ((Lm.good_eq b t).1 h).2.2.2 a ha
mutual
theorem Lm.good_chk {m : Int} (h1 : m ≤ 40) : ∀ (t : Lm) (u b : Int), 0 ≤ u → u + t.size ≤ b → 40 ≤ b → t.chk m u = 0 → t.good b
 | .mk k i xs, u, b, hu, hb, hb4, h => by
  rw [Lm.chk] at h
  rw [Lm.size] at hb
  split at h
  ·rename_i hk
   split at h
   ·rename_i hi
    refine ⟨fun e => ?_, hi.1, ?_, ?_⟩
    ·subst e
     have := hk.2.2
     simp [BX] at this
     exact this
    ·have := hi.2
     simp only [Ca] at this
     split at this
     ·omega
     ·split at this
      ·omega
      ·split at this <;> omega
    ·have hu2 : Af k u ≤ u + 1 ∧ 0 ≤ Af k u := by unfold Af; split <;> omega
     exact Lm.goods_chk h1 xs (Af k u) b hu2.2 (by omega) hb4 h
   ·omega
  ·omega
theorem Lm.goods_chk {m : Int} (h1 : m ≤ 40) : ∀ (xs : List Lm) (u b : Int), 0 ≤ u → u + Lm.sizes xs ≤ b → 40 ≤ b → Lm.chks m xs u = 0 → Lm.goods b xs
 | [], _, _, _, _, _, _ => trivial
 | t :: ts, u, b, hu, hb, hb4, h => by
  rw [Lm.chks] at h
  rw [Lm.sizes] at hb
  split at h
  ·rename_i e
   exact ⟨Lm.good_chk h1 t u b hu (by omega) hb4 e, Lm.goods_chk h1 ts u b hu (by omega) hb4 h⟩
  ·rename_i e
   exact absurd h e
end
mutual
def Lm.mv (by_ : Int) : Int → Lm → Lm
 | d, .mk k i xs => .mk k (if k = 1 ∧ d ≤ i then i + by_ else i) (Lm.mvs by_ (Af k d) xs)
def Lm.mvs (by_ : Int) : Int → List Lm → List Lm
 | _, [] => []
 | d, t :: ts => Lm.mv by_ d t :: Lm.mvs by_ d ts
end
theorem Lm.mvs_eq (b d : Int) : ∀ xs : List Lm, Lm.mvs b d xs = xs.map (Lm.mv b d)
 | [] => rfl
 | t :: ts => by rw [Lm.mvs, Lm.mvs_eq b d ts]; rfl
theorem Lm.mv_eq (b d : Int) (t : Lm) : Lm.mv b d t = .mk t.kind (if t.kind = 1 ∧ d ≤ t.idx then t.idx + b else t.idx) (t.subs.map (Lm.mv b (Af t.kind d))) := by
 cases t
 rw [Lm.mv, Lm.mvs_eq]
 rfl
mutual
theorem Lm.size_mv (b : Int) : ∀ (d : Int) (t : Lm), (Lm.mv b d t).size = t.size
 | d, .mk k i xs => by rw [Lm.mv, Lm.size, Lm.size, Lm.sizes_mv b _ xs]
theorem Lm.sizes_mv (b : Int) : ∀ (d : Int) (xs : List Lm), Lm.sizes (Lm.mvs b d xs) = Lm.sizes xs
 | _, [] => rfl
 | d, t :: ts => by rw [Lm.mvs, Lm.sizes, Lm.sizes, Lm.size_mv b d t, Lm.sizes_mv b d ts]
end
mutual
def Lm.put (x : Lm) : Int → Lm → Lm
 | d, .mk k i xs => if k = 1 then (if i = d then Lm.mv d 0 x else if d < i then .mk 1 (i - 1) [] else .mk 1 i []) else .mk k i (Lm.puts x (Af k d) xs)
def Lm.puts (x : Lm) : Int → List Lm → List Lm
 | _, [] => []
 | d, t :: ts => Lm.put x d t :: Lm.puts x d ts
end
theorem Lm.puts_eq (x : Lm) (d : Int) : ∀ xs : List Lm, Lm.puts x d xs = xs.map (Lm.put x d)
 | [] => rfl
 | t :: ts => by rw [Lm.puts, Lm.puts_eq x d ts]; rfl
theorem Lm.put_eq (x : Lm) (d : Int) (t : Lm) : Lm.put x d t = if t.kind = 1 then (if t.idx = d then Lm.mv d 0 x else if d < t.idx then .mk 1 (t.idx - 1) [] else .mk 1 t.idx []) else .mk t.kind t.idx (t.subs.map (Lm.put x (Af t.kind d))) := by
 cases t
 rw [Lm.put, Lm.puts_eq]
 rfl
theorem J6 {a b c : Nat} (h : a ≤ b * c) (hc : 1 ≤ c) : 1 + a ≤ (1 + b) * c := by
 rw [Nat.add_mul, Nat.one_mul]
 omega
mutual
theorem Lm.size_put (x : Lm) : ∀ (d : Int) (t : Lm), (Lm.put x d t).size ≤ t.size * x.size
 | d, .mk k i xs => by
  have hx := Lm.size_pos x
  have h1 : 1 ≤ (1 + Lm.sizes xs) * x.size := by
   rw [Nat.add_mul]; omega
  have h2 : x.size ≤ (1 + Lm.sizes xs) * x.size := by
   rw [Nat.add_mul]; omega
  rw [Lm.put, Lm.size]
  split
  ·split
   ·rw [Lm.size_mv]; exact h2
   ·split
    ·simpa only [Lm.size, Lm.sizes, Nat.add_zero] using h1
    ·simpa only [Lm.size, Lm.sizes, Nat.add_zero] using h1
  ·rw [Lm.size]
   exact J6 (Lm.sizes_put x _ xs) hx
theorem Lm.sizes_put (x : Lm) : ∀ (d : Int) (xs : List Lm), Lm.sizes (Lm.puts x d xs) ≤ Lm.sizes xs * x.size
 | _, [] => by simp [Lm.puts, Lm.sizes]
 | d, t :: ts => by
  have h1 := Lm.size_put x d t
  have h2 := Lm.sizes_put x d ts
  rw [Lm.puts, Lm.sizes, Lm.sizes, Nat.add_mul]
  omega
end
mutual
def Lm.same : Lm → Lm → Bool
 | .mk k i xs, .mk l j ys => decide (k = l) && decide (i = j) && Lm.sames xs ys
def Lm.sames : List Lm → List Lm → Bool
 | [], [] => true
 | x :: xs, y :: ys => x.same y && Lm.sames xs ys
 | [], _ :: _ => false
 | _ :: _, [] => false
end
def Lm.may (m u : Int) (t : Lm) : Int := if u < 0 ∨ 40 < u then 10 else if 200 < t.size then 3 else t.chk m u
theorem Lm.may_ok {m u : Int} {t : Lm} (h : Lm.may m u t = 0) : 0 ≤ u ∧ u ≤ 40 ∧ t.size ≤ 200 ∧ t.chk m u = 0 := by
 unfold Lm.may at h
 split at h
 ·omega
 ·split at h
  ·omega
  ·omega
def Lm.nil : Lm := .mk 0 0 []
mutual
def Lm.pure : Lm → Bool
 | .mk k _ xs => !decide (k = 4) && Lm.pures xs
def Lm.pures : List Lm → Bool
 | [] => true
 | t :: ts => t.pure && Lm.pures ts
end

set_option maxRecDepth 100000
def DE : IR :=
 (.seq (.ops [.i 2 (.box 24 (.t 0)), .i 4 (.mov (.n 0))]) (.seq (.ops [.m 7 1, .i 8 (.bin .sub (.t 7) (.n 1)), .m 1 8]) (.seq (.seq (.ops [.f 9 2 2, .l 10 9, .i 11 (.len false (.t 10)), .i 12 (.mov (.n 0))]) (.block 0 (.loop (.seq (.ops [.i 13 (.bin .lss (.t 12) (.t 11))]) (.seq (.cond (.t 13) .skip (.exit 0)) (.seq (.block 1 (.seq (.ops [.i 14 (.indexAddr 3 (.t 10) (.t 12)), .L 15 3 14, .i 6 (.alloc 24 [.st (.int .i64 0), .st (.int .i64 0), .full []]), .s 3 6 15]) (.seq (.seq (.ops [.m 16 1, .i 17 (.bin .lss (.t 16) (.n 0))]) (.cond (.t 17) (.exit 0) .skip)) (.ops [.L 18 3 6, .m 19 1, .i 20 (.call 49 [.t 18, .t 19]), .m 1 20])))) (.ops [.i 21 (.bin .add (.t 12) (.n 1)), .m 12 21]))))))) (.seq (.ops [.m 22 1, .m 4 22]) .ret))))
theorem Fp : OkF Tryd.prog 49 23 [] DE [.t 4] := .of Tryd.func49 rfl rfl (by kernel_rfl) rfl
def D1 : IR :=
 (.seq (.ops [.i 3 (.box 24 (.t 0)), .i 6 (.mov (.n 0))]) (.seq (.seq (.ops [.f 11 0 3, .l 12 11, .i 13 (.bin .lss (.t 12) (.n 1)), .m 14 13, .mk (some 15) (some (14, false)) (.fieldAddr 0 (.t 3)) .no, .mk (some 16) (some (14, false)) (.load false 1 (.t 15)) .no, .mk (some 17) (some (14, false)) (.bin .gtr (.t 16) (.n 5)) .no, .i 18 (.pick (.t 14) (.c (.one (.st (.bool true)))) (.t 17)), .m 19 18, .mk (some 20) (some (19, false)) (.fieldAddr 2 (.t 3)) .no, .mk (some 21) (some (19, false)) (.load false 1 (.t 20)) .no, .mk (some 22) (some (19, false)) (.len false (.t 21)) .no, .mk (some 23) (some (19, false)) (.fieldAddr 0 (.t 3)) .no, .mk (some 24) (some (19, false)) (.load false 1 (.t 23)) .no, .mk (some 25) (some (19, false)) (.indexArr 6 1 (.c (.one (.eptr [.int .i64 0, .int .i64 0, .int .i64 1, .int .i64 2, .int .i64 0, .int .i64 0]))) (.t 24)) .no, .mk (some 26) (some (19, false)) (.load false 1 (.t 25)) .no, .mk (some 27) (some (19, false)) (.bin .neq (.t 22) (.t 26)) .no, .i 28 (.pick (.t 19) (.c (.one (.st (.bool true)))) (.t 27))]) (.cond (.t 28) (.seq (.ops [.i 6 (.mov (.n 2))]) .ret) .skip)) (.seq (.ops [.i 7 (.mov (.n 1))]) (.seq (.seq (.ops [.f 29 0 3, .l 30 29]) (.block 0 (.seq (.ops [.i 32 (.bin .eql (.t 30) (.n 1)), .m 31 32]) (.cond (.t 31) (.ops [.m 33 1, .m 7 33]) (.seq (.ops [.i 35 (.bin .eql (.t 30) (.n 4)), .m 34 35]) (.cond (.t 34) (.ops [.i 7 (.mov (.n 40))]) (.seq (.ops [.i 37 (.bin .eql (.t 30) (.n 5)), .m 36 37]) (.cond (.t 36) (.ops [.m 38 2, .m 7 38]) .skip)))))))) (.seq (.seq (.ops [.f 39 1 3, .l 40 39, .i 41 (.bin .lss (.t 40) (.n 0)), .m 42 41, .mk (some 43) (some (42, false)) (.fieldAddr 1 (.t 3)) .no, .mk (some 44) (some (42, false)) (.load false 1 (.t 43)) .no, .mk (some 45) (some (42, false)) (.mov (.t 7)) .no, .mk (some 46) (some (42, false)) (.bin .geq (.t 44) (.t 45)) .no, .i 47 (.pick (.t 42) (.c (.one (.st (.bool true)))) (.t 46))]) (.cond (.t 47) (.seq (.ops [.i 6 (.mov (.n 15))]) .ret) .skip)) (.seq (.seq (.ops [.f 48 0 3, .l 49 48, .i 50 (.bin .eql (.t 49) (.n 2))]) (.cond (.t 50) (.ops [.m 51 1, .i 52 (.bin .add (.t 51) (.n 1)), .m 1 52]) .skip)) (.seq (.seq (.ops [.f 53 2 3, .l 54 53, .i 55 (.len false (.t 54)), .i 56 (.mov (.n 0))]) (.block 1 (.loop (.seq (.ops [.i 57 (.bin .lss (.t 56) (.t 55))]) (.seq (.cond (.t 57) .skip (.exit 1)) (.seq (.block 2 (.seq (.ops [.i 58 (.indexAddr 3 (.t 54) (.t 56)), .L 59 3 58, .i 9 (.alloc 24 [.st (.int .i64 0), .st (.int .i64 0), .full []]), .s 3 9 59]) (.seq (.ops [.L 60 3 9, .m 61 1, .m 62 2, .i 63 (.call 50 [.t 60, .t 61, .t 62]), .m 10 63]) (.seq (.ops [.m 64 10, .i 65 (.bin .neq (.t 64) (.n 0))]) (.cond (.t 65) (.seq (.ops [.m 66 10, .m 6 66]) .ret) .skip))))) (.ops [.i 67 (.bin .add (.t 56) (.n 1)), .m 56 67]))))))) (.seq (.ops [.i 6 (.mov (.n 0))]) .ret))))))))
theorem Ge : OkF Tryd.prog 50 68 [] D1 [.t 6] := .of Tryd.func50 rfl rfl (by kernel_rfl) rfl
def Ci : IR :=
 (.seq (.ops [.i 3 (.box 24 (.t 0)), .i 6 (.mov (.n 0))]) (.seq (.seq (.ops [.m 7 1, .i 8 (.bin .lss (.t 7) (.n 0)), .m 9 8, .mk (some 10) (some (9, false)) (.mov (.t 1)) .no, .mk (some 11) (some (9, false)) (.bin .gtr (.t 10) (.n 40)) .no, .i 12 (.pick (.t 9) (.c (.one (.st (.bool true)))) (.t 11))]) (.cond (.t 12) (.seq (.ops [.i 6 (.mov (.n 10))]) .ret) .skip)) (.seq (.seq (.ops [.L 13 3 3, .i 14 (.call 49 [.t 13, .n 200]), .i 15 (.bin .lss (.t 14) (.n 0))]) (.cond (.t 15) (.seq (.ops [.i 6 (.mov (.n 3))]) .ret) .skip)) (.seq (.ops [.L 16 3 3, .m 17 1, .m 18 2, .i 19 (.call 50 [.t 16, .t 17, .t 18]), .m 6 19]) .ret))))
theorem El : OkF Tryd.prog 31 20 [] Ci [.t 6] := .of Tryd.func31 rfl rfl (by kernel_rfl) rfl
def EO : IR :=
 (.seq (.ops [.i 1 (.box 24 (.t 0)), .i 2 (.mov (.n 0))]) (.seq (.ops [.i 3 (.mov (.n 1))]) (.seq (.seq (.ops [.f 6 2 1, .l 7 6, .i 8 (.len false (.t 7)), .i 9 (.mov (.n 0))]) (.block 0 (.loop (.seq (.ops [.i 10 (.bin .lss (.t 9) (.t 8))]) (.seq (.cond (.t 10) .skip (.exit 0)) (.seq (.block 1 (.seq (.ops [.i 11 (.indexAddr 3 (.t 7) (.t 9)), .L 12 3 11, .i 5 (.alloc 24 [.st (.int .i64 0), .st (.int .i64 0), .full []]), .s 3 5 12]) (.ops [.m 13 3, .L 14 3 5, .i 15 (.call 32 [.t 14]), .i 16 (.bin .add (.t 13) (.t 15)), .m 3 16]))) (.ops [.i 17 (.bin .add (.t 9) (.n 1)), .m 9 17]))))))) (.seq (.ops [.m 18 3, .m 2 18]) .ret))))
theorem Hq : OkF Tryd.prog 32 19 [] EO [.t 2] := .of Tryd.func32 rfl rfl (by kernel_rfl) rfl
def GN : IR :=
 (.seq (.ops [.i 2 (.alloc 24 [.st (.int .i64 0), .st (.int .i64 0), .full []])]) (.seq (.ops [.m 3 0, .i 4 (.build [.st (.int .i64 0), .st (.int .i64 0), .full []] [(0, 1, .n 1), (1, 1, .t 3)]), .s 3 2 4]) .ret))
theorem JY : OkF Tryd.prog 58 5 [] GN [.cell 2 true 3] := .of Tryd.func58 rfl rfl (by kernel_rfl) rfl
def EC : IR :=
 (.seq (.ops [.i 3 (.box 24 (.t 0)), .i 6 (.alloc 24 [.st (.int .i64 0), .st (.int .i64 0), .full []])]) (.seq (.ops [.f 10 0 3, .l 11 10, .f 12 1 3, .l 13 12, .i 14 (.build [.st (.int .i64 0), .st (.int .i64 0), .full []] [(0, 1, .t 11), (1, 1, .t 13)]), .i 7 (.alloc 24 [.st (.int .i64 0), .st (.int .i64 0), .full []]), .s 3 7 14]) (.seq (.seq (.ops [.f 15 0 3, .l 16 15]) (.block 0 (.seq (.ops [.i 18 (.bin .eql (.t 16) (.n 1)), .m 17 18]) (.cond (.t 17) (.seq (.ops [.f 19 1 3, .l 20 19, .m 21 2, .i 22 (.bin .geq (.t 20) (.t 21))]) (.cond (.t 22) (.ops [.f 23 1 7, .l 24 23, .m 25 1, .i 26 (.bin .add (.t 24) (.t 25)), .f 27 1 7, .s 1 27 26]) .skip)) (.seq (.ops [.i 29 (.bin .eql (.t 16) (.n 2)), .m 28 29]) (.cond (.t 28) (.ops [.m 30 2, .i 31 (.bin .add (.t 30) (.n 1)), .m 2 31]) .skip)))))) (.seq (.seq (.ops [.f 32 2 3, .l 33 32, .i 34 (.len false (.t 33)), .i 35 (.mov (.n 0))]) (.block 1 (.loop (.seq (.ops [.i 36 (.bin .lss (.t 35) (.t 34))]) (.seq (.cond (.t 36) .skip (.exit 1)) (.seq (.block 2 (.seq (.ops [.i 37 (.indexAddr 3 (.t 33) (.t 35)), .L 38 3 37, .i 9 (.alloc 24 [.st (.int .i64 0), .st (.int .i64 0), .full []]), .s 3 9 38]) (.ops [.f 39 2 7, .l 40 39, .L 41 3 9, .m 42 1, .m 43 2, .i 44 (.call 40 [.t 41, .t 42, .t 43]), .i 45 (.buildSlice false 24 3 [.t 44]), .i 46 (.append false 24 3 40 (.t 40) (.t 45)), .f 47 2 7, .s 1 47 46]))) (.ops [.i 48 (.bin .add (.t 35) (.n 1)), .m 35 48]))))))) (.seq (.ops [.L 49 3 7, .s 3 6 49]) .ret)))))
theorem Hd : OkF Tryd.prog 40 50 [] EC [.cell 6 true 3] := .of Tryd.func40 rfl rfl (by kernel_rfl) rfl
def Br : IR :=
 (.seq (.ops [.i 3 (.box 24 (.t 0)), .i 4 (.box 24 (.t 1)), .i 6 (.alloc 24 [.st (.int .i64 0), .st (.int .i64 0), .full []])]) (.seq (.seq (.ops [.f 10 0 3, .l 11 10, .i 12 (.bin .eql (.t 11) (.n 1))]) (.cond (.t 12) (.seq (.block 0 (.seq (.ops [.f 14 1 3, .l 15 14, .m 16 2, .i 17 (.bin .eql (.t 15) (.t 16)), .m 13 17]) (.cond (.t 13) (.seq (.ops [.L 18 3 4, .m 19 2, .i 20 (.call 40 [.t 18, .t 19, .n 0]), .s 3 6 20]) .ret) (.seq (.ops [.f 22 1 3, .l 23 22, .m 24 2, .i 25 (.bin .gtr (.t 23) (.t 24)), .m 21 25]) (.cond (.t 21) (.seq (.ops [.f 26 1 3, .l 27 26, .i 28 (.bin .sub (.t 27) (.n 1)), .i 29 (.call 58 [.t 28]), .s 3 6 29]) .ret) .skip))))) (.seq (.ops [.f 30 1 3, .l 31 30, .i 32 (.call 58 [.t 31]), .s 3 6 32]) .ret)) .skip)) (.seq (.ops [.f 33 0 3, .l 34 33, .f 35 1 3, .l 36 35, .i 37 (.build [.st (.int .i64 0), .st (.int .i64 0), .full []] [(0, 1, .t 34), (1, 1, .t 36)]), .i 7 (.alloc 24 [.st (.int .i64 0), .st (.int .i64 0), .full []]), .s 3 7 37]) (.seq (.seq (.ops [.f 38 0 3, .l 39 38, .i 40 (.bin .eql (.t 39) (.n 2))]) (.cond (.t 40) (.ops [.m 41 2, .i 42 (.bin .add (.t 41) (.n 1)), .m 2 42]) .skip)) (.seq (.seq (.ops [.f 43 2 3, .l 44 43, .i 45 (.len false (.t 44)), .i 46 (.mov (.n 0))]) (.block 1 (.loop (.seq (.ops [.i 47 (.bin .lss (.t 46) (.t 45))]) (.seq (.cond (.t 47) .skip (.exit 1)) (.seq (.block 2 (.seq (.ops [.i 48 (.indexAddr 3 (.t 44) (.t 46)), .L 49 3 48, .i 9 (.alloc 24 [.st (.int .i64 0), .st (.int .i64 0), .full []]), .s 3 9 49]) (.ops [.f 50 2 7, .l 51 50, .L 52 3 9, .L 53 3 4, .m 54 2, .i 55 (.call 72 [.t 52, .t 53, .t 54]), .i 56 (.buildSlice false 24 3 [.t 55]), .i 57 (.append false 24 3 40 (.t 51) (.t 56)), .f 58 2 7, .s 1 58 57]))) (.ops [.i 59 (.bin .add (.t 46) (.n 1)), .m 46 59]))))))) (.seq (.ops [.L 60 3 7, .s 3 6 60]) .ret))))))
theorem CL : OkF Tryd.prog 72 61 [] Br [.cell 6 true 3] := .of Tryd.func72 rfl rfl (by kernel_rfl) rfl
def EQ : IR :=
 (.seq (.ops [.i 2 (.box 24 (.t 0)), .i 3 (.box 24 (.t 1)), .i 4 (.alloc 24 [.st (.int .i64 0), .st (.int .i64 0), .full []])]) (.seq (.ops [.L 5 3 2, .L 6 3 3, .i 7 (.call 72 [.t 5, .t 6, .n 0]), .s 3 4 7]) .ret))
theorem G3 : OkF Tryd.prog 56 8 [] EQ [.cell 4 true 3] := .of Tryd.func56 rfl rfl (by kernel_rfl) rfl
def FJ : IR :=
 (.seq (.ops [.i 2 (.box 24 (.t 0)), .i 4 (.mov (.n 0))]) (.seq (.ops [.i 5 (.mov (.n 1))]) (.seq (.seq (.ops [.i 6 (.mov (.n 0))]) (.block 0 (.loop (.seq (.seq (.ops [.m 7 6, .f 8 2 2, .l 9 8, .i 10 (.len false (.t 9)), .i 11 (.bin .lss (.t 7) (.t 10)), .m 12 11, .mk (some 13) (some (12, true)) (.mov (.t 5)) .no, .mk (some 14) (some (12, true)) (.mov (.t 1)) .no, .mk (some 15) (some (12, true)) (.bin .leq (.t 13) (.t 14)) .no, .i 16 (.pick (.t 12) (.t 15) (.c (.one (.st (.bool false)))))]) (.cond (.t 16) .skip (.exit 0))) (.seq (.block 1 (.ops [.m 19 5, .f 20 2 2, .l 21 20, .m 22 6, .i 23 (.indexAddr 3 (.t 21) (.t 22)), .L 24 3 23, .m 25 1, .m 26 5, .i 27 (.bin .sub (.t 25) (.t 26)), .i 28 (.call 23 [.t 24, .t 27]), .i 29 (.bin .add (.t 19) (.t 28)), .m 5 29])) (.ops [.m 17 6, .i 18 (.bin .add (.t 17) (.n 1)), .m 6 18])))))) (.seq (.seq (.ops [.m 30 5, .m 31 1, .i 32 (.bin .gtr (.t 30) (.t 31))]) (.cond (.t 32) (.seq (.ops [.m 33 1, .i 34 (.bin .add (.t 33) (.n 1)), .m 4 34]) .ret) .skip)) (.seq (.ops [.m 35 5, .m 4 35]) .ret)))))
theorem I0 : OkF Tryd.prog 23 36 [] FJ [.t 4] := .of Tryd.func23 rfl rfl (by kernel_rfl) rfl
def GO : IR :=
 (.seq (.ops [.i 3 (.box 24 (.t 0)), .i 6 (.mov (.n 0))]) (.seq (.ops [.i 7 (.mov (.n 1))]) (.seq (.ops [.i 8 (.mov (.n 0))]) (.seq (.ops [.m 12 1, .m 9 12]) (.seq (.seq (.ops [.f 13 0 3, .l 14 13]) (.block 0 (.seq (.ops [.i 16 (.bin .eql (.t 14) (.n 1)), .m 15 16]) (.cond (.t 15) (.ops [.m 17 1, .m 7 17]) (.seq (.ops [.i 19 (.bin .eql (.t 14) (.n 2)), .m 18 19]) (.cond (.t 18) (.seq (.ops [.i 8 (.mov (.n 1))]) (.ops [.m 20 1, .i 21 (.bin .add (.t 20) (.n 1)), .m 9 21])) (.seq (.ops [.i 23 (.bin .eql (.t 14) (.n 3)), .m 22 23]) (.cond (.t 22) (.ops [.i 8 (.mov (.n 2))]) (.seq (.ops [.i 25 (.bin .eql (.t 14) (.n 4)), .m 24 25]) (.cond (.t 24) (.ops [.i 7 (.mov (.n 40))]) (.seq (.ops [.i 27 (.bin .eql (.t 14) (.n 5)), .m 26 27]) (.cond (.t 26) (.ops [.m 28 2, .m 7 28]) (.seq (.ops [.i 6 (.mov (.n 2))]) .ret))))))))))))) (.seq (.seq (.ops [.f 29 2 3, .l 30 29, .i 31 (.len false (.t 30)), .m 32 8, .i 33 (.bin .neq (.t 31) (.t 32))]) (.cond (.t 33) (.seq (.ops [.i 6 (.mov (.n 2))]) .ret) .skip)) (.seq (.seq (.ops [.f 34 1 3, .l 35 34, .i 36 (.bin .lss (.t 35) (.n 0)), .m 37 36, .mk (some 38) (some (37, false)) (.fieldAddr 1 (.t 3)) .no, .mk (some 39) (some (37, false)) (.load false 1 (.t 38)) .no, .mk (some 40) (some (37, false)) (.mov (.t 7)) .no, .mk (some 41) (some (37, false)) (.bin .geq (.t 39) (.t 40)) .no, .i 42 (.pick (.t 37) (.c (.one (.st (.bool true)))) (.t 41))]) (.cond (.t 42) (.seq (.ops [.i 6 (.mov (.n 15))]) .ret) .skip)) (.seq (.seq (.ops [.i 10 (.mov (.n 0))]) (.block 1 (.loop (.seq (.seq (.ops [.m 43 10, .m 44 8, .i 45 (.bin .lss (.t 43) (.t 44))]) (.cond (.t 45) .skip (.exit 1))) (.seq (.block 2 (.seq (.ops [.f 48 2 3, .l 49 48, .m 50 10, .i 51 (.indexAddr 3 (.t 49) (.t 50)), .L 52 3 51, .m 53 9, .m 54 2, .i 55 (.call 24 [.t 52, .t 53, .t 54]), .m 11 55]) (.seq (.ops [.m 56 11, .i 57 (.bin .neq (.t 56) (.n 0))]) (.cond (.t 57) (.seq (.ops [.m 58 11, .m 6 58]) .ret) .skip)))) (.ops [.m 46 10, .i 47 (.bin .add (.t 46) (.n 1)), .m 10 47])))))) (.seq (.ops [.i 6 (.mov (.n 0))]) .ret)))))))))
theorem Jf : OkF Tryd.prog 24 59 [] GO [.t 6] := .of Tryd.func24 rfl rfl (by kernel_rfl) rfl
def FE : IR :=
 (.seq (.ops [.i 2 (.box 24 (.t 0)), .i 3 (.box 24 (.t 1)), .i 4 (.mov (.c (.one (.st (.bool false)))))]) (.seq (.seq (.ops [.f 6 0 2, .l 7 6, .f 8 0 3, .l 9 8, .i 10 (.bin .neq (.t 7) (.t 9)), .m 11 10, .mk (some 12) (some (11, false)) (.fieldAddr 1 (.t 2)) .no, .mk (some 13) (some (11, false)) (.load false 1 (.t 12)) .no, .mk (some 14) (some (11, false)) (.fieldAddr 1 (.t 3)) .no, .mk (some 15) (some (11, false)) (.load false 1 (.t 14)) .no, .mk (some 16) (some (11, false)) (.bin .neq (.t 13) (.t 15)) .no, .i 17 (.pick (.t 11) (.c (.one (.st (.bool true)))) (.t 16)), .m 18 17, .mk (some 19) (some (18, false)) (.fieldAddr 2 (.t 2)) .no, .mk (some 20) (some (18, false)) (.load false 1 (.t 19)) .no, .mk (some 21) (some (18, false)) (.len false (.t 20)) .no, .mk (some 22) (some (18, false)) (.fieldAddr 2 (.t 3)) .no, .mk (some 23) (some (18, false)) (.load false 1 (.t 22)) .no, .mk (some 24) (some (18, false)) (.len false (.t 23)) .no, .mk (some 25) (some (18, false)) (.bin .neq (.t 21) (.t 24)) .no, .i 26 (.pick (.t 18) (.c (.one (.st (.bool true)))) (.t 25))]) (.cond (.t 26) (.seq (.ops [.i 4 (.mov (.c (.one (.st (.bool false)))))]) .ret) .skip)) (.seq (.seq (.ops [.i 5 (.mov (.n 0))]) (.block 0 (.loop (.seq (.seq (.ops [.m 27 5, .f 28 2 2, .l 29 28, .i 30 (.len false (.t 29)), .i 31 (.bin .lss (.t 27) (.t 30))]) (.cond (.t 31) .skip (.exit 0))) (.seq (.block 1 (.seq (.ops [.f 34 2 2, .l 35 34, .m 36 5, .i 37 (.indexAddr 3 (.t 35) (.t 36)), .L 38 3 37, .f 39 2 3, .l 40 39, .m 41 5, .i 42 (.indexAddr 3 (.t 40) (.t 41)), .L 43 3 42, .i 44 (.call 12 [.t 38, .t 43]), .i 45 (.un .not (.t 44))]) (.cond (.t 45) (.seq (.ops [.i 4 (.mov (.c (.one (.st (.bool false)))))]) .ret) .skip))) (.ops [.m 32 5, .i 33 (.bin .add (.t 32) (.n 1)), .m 5 33])))))) (.seq (.ops [.i 4 (.mov (.c (.one (.st (.bool true)))))]) .ret))))
theorem JO : OkF Tryd.prog 12 46 [] FE [.t 4] := .of Tryd.func12 rfl rfl (by kernel_rfl) rfl
def Km : IR :=
 (.seq (.ops [.i 2 (.alloc 24 [.st (.int .i64 0), .st (.int .i64 0), .full []])]) (.seq (.ops [.m 3 0, .i 4 (.build [.st (.int .i64 0), .st (.int .i64 0), .full []] [(0, 1, .n 1), (1, 1, .t 3)]), .s 3 2 4]) .ret))
theorem NQ : OkF Tryd.prog 7 5 [] Km [.cell 2 true 3] := .of Tryd.func7 rfl rfl (by kernel_rfl) rfl
def Cz : IR :=
 (.seq (.ops [.i 3 (.box 24 (.t 0)), .i 6 (.alloc 24 [.st (.int .i64 0), .st (.int .i64 0), .full []])]) (.seq (.seq (.ops [.f 9 0 3, .l 10 9, .i 11 (.bin .eql (.t 10) (.n 1))]) (.cond (.t 11) (.seq (.seq (.ops [.f 12 1 3, .l 13 12, .m 14 2, .i 15 (.bin .lss (.t 13) (.t 14))]) (.cond (.t 15) (.seq (.ops [.L 16 3 3, .s 3 6 16]) .ret) .skip)) (.seq (.ops [.f 17 1 3, .l 18 17, .m 19 1, .i 20 (.bin .add (.t 18) (.t 19)), .i 21 (.call 7 [.t 20]), .s 3 6 21]) .ret)) .skip)) (.seq (.seq (.ops [.f 22 0 3, .l 23 22, .i 24 (.bin .eql (.t 23) (.n 2))]) (.cond (.t 24) (.ops [.m 25 2, .i 26 (.bin .add (.t 25) (.n 1)), .m 2 26]) .skip)) (.seq (.ops [.f 27 0 3, .l 28 27, .f 29 1 3, .l 30 29, .i 31 (.build [.st (.int .i64 0), .st (.int .i64 0), .full []] [(0, 1, .t 28), (1, 1, .t 30)]), .i 7 (.alloc 24 [.st (.int .i64 0), .st (.int .i64 0), .full []]), .s 3 7 31]) (.seq (.seq (.ops [.i 8 (.mov (.n 0))]) (.block 0 (.loop (.seq (.seq (.ops [.m 32 8, .f 33 2 3, .l 34 33, .i 35 (.len false (.t 34)), .i 36 (.bin .lss (.t 32) (.t 35))]) (.cond (.t 36) .skip (.exit 0))) (.seq (.block 1 (.ops [.f 39 2 7, .l 40 39, .f 41 2 3, .l 42 41, .m 43 8, .i 44 (.indexAddr 3 (.t 42) (.t 43)), .L 45 3 44, .m 46 1, .m 47 2, .i 48 (.call 43 [.t 45, .t 46, .t 47]), .i 49 (.buildSlice false 24 3 [.t 48]), .i 50 (.append false 24 3 40 (.t 40) (.t 49)), .f 51 2 7, .s 1 51 50])) (.ops [.m 37 8, .i 38 (.bin .add (.t 37) (.n 1)), .m 8 38])))))) (.seq (.ops [.L 52 3 7, .s 3 6 52]) .ret))))))
theorem EU : OkF Tryd.prog 43 53 [] Cz [.cell 6 true 3] := .of Tryd.func43 rfl rfl (by kernel_rfl) rfl
def CC : IR :=
 (.seq (.ops [.i 3 (.box 24 (.t 0)), .i 6 (.alloc 24 [.st (.int .i64 0), .st (.int .i64 0), .full []])]) (.seq (.seq (.ops [.f 10 0 3, .l 11 10, .i 12 (.bin .eql (.t 11) (.n 1))]) (.cond (.t 12) (.seq (.seq (.ops [.f 13 1 3, .l 14 13, .m 15 2, .i 16 (.bin .lss (.t 14) (.t 15))]) (.cond (.t 16) (.seq (.ops [.L 17 3 3, .s 3 6 17]) .ret) .skip)) (.seq (.ops [.f 18 1 3, .l 19 18, .m 20 2, .i 21 (.bin .sub (.t 19) (.t 20)), .m 7 21]) (.seq (.seq (.ops [.m 22 7, .m 23 1, .i 24 (.len false (.t 23)), .i 25 (.bin .lss (.t 22) (.t 24))]) (.cond (.t 25) (.seq (.ops [.m 26 1, .m 27 7, .i 28 (.indexAddr 3 (.t 26) (.t 27)), .L 29 3 28, .m 30 2, .i 31 (.call 43 [.t 29, .t 30, .n 0]), .s 3 6 31]) .ret) .skip)) (.seq (.ops [.f 32 1 3, .l 33 32, .m 34 1, .i 35 (.len false (.t 34)), .i 36 (.bin .sub (.t 33) (.t 35)), .i 37 (.call 7 [.t 36]), .s 3 6 37]) .ret)))) .skip)) (.seq (.seq (.ops [.f 38 0 3, .l 39 38, .i 40 (.bin .eql (.t 39) (.n 2))]) (.cond (.t 40) (.ops [.m 41 2, .i 42 (.bin .add (.t 41) (.n 1)), .m 2 42]) .skip)) (.seq (.ops [.f 43 0 3, .l 44 43, .f 45 1 3, .l 46 45, .i 47 (.build [.st (.int .i64 0), .st (.int .i64 0), .full []] [(0, 1, .t 44), (1, 1, .t 46)]), .i 8 (.alloc 24 [.st (.int .i64 0), .st (.int .i64 0), .full []]), .s 3 8 47]) (.seq (.seq (.ops [.i 9 (.mov (.n 0))]) (.block 0 (.loop (.seq (.seq (.ops [.m 48 9, .f 49 2 3, .l 50 49, .i 51 (.len false (.t 50)), .i 52 (.bin .lss (.t 48) (.t 51))]) (.cond (.t 52) .skip (.exit 0))) (.seq (.block 1 (.ops [.f 55 2 8, .l 56 55, .f 57 2 3, .l 58 57, .m 59 9, .i 60 (.indexAddr 3 (.t 58) (.t 59)), .L 61 3 60, .m 62 1, .m 63 2, .i 64 (.call 64 [.t 61, .t 62, .t 63]), .i 65 (.buildSlice false 24 3 [.t 64]), .i 66 (.append false 24 3 40 (.t 56) (.t 65)), .f 67 2 8, .s 1 67 66])) (.ops [.m 53 9, .i 54 (.bin .add (.t 53) (.n 1)), .m 9 54])))))) (.seq (.ops [.L 68 3 8, .s 3 6 68]) .ret))))))
theorem Cl : OkF Tryd.prog 64 69 [] CC [.cell 6 true 3] := .of Tryd.func64 rfl rfl (by kernel_rfl) rfl
def Ie : IR :=
 (.seq (.ops [.i 2 (.box 24 (.t 0)), .i 3 (.box 24 (.t 1)), .i 4 (.alloc 24 [.st (.int .i64 0), .st (.int .i64 0), .full []])]) (.seq (.ops [.L 5 3 2, .L 6 3 3, .i 7 (.buildSlice false 24 3 [.t 6]), .i 8 (.call 64 [.t 5, .t 7, .n 0]), .s 3 4 8]) .ret))
theorem Ma : OkF Tryd.prog 45 9 [] Ie [.cell 4 true 3] := .of Tryd.func45 rfl rfl (by kernel_rfl) rfl

theorem Il (t : Lm) (m : Int) (h0 : 0 ≤ m) (h1 : m ≤ 9223372036854775807) : Aa Tryd.prog 49 [aLm t, AK m] (AK (Bo t.size m)) := by
 induction h : SizeOf.sizeOf t using Nat.strongRecOn generalizing t m with
 | _ N ih =>
 subst h
 have hs := Lm.size_eq t
 refine Fp.ac fun C hC => ?_
 unfold DE
 refine IWP.learn 0 (by omega) fun hkn => ?_
 have hkn := (HL hkn).2.2
 repeat' with_reducible first | refine W ?_ | refine Z0 ?_ | ((first | refine Wo fun K hK => ?_ | refine Wq ?_ | refine Wr ?_); (try simp only [go_sem, fN, seval, eT, iR]); (repeat refine Ai ?_); (try (refine hK _ ?_; clear hK K)))
 refine IWP.loopD [6] (fun n s => ∃ k, k ≤ t.subs.length ∧ n = t.subs.length - k ∧ s.env 1 = AK (Bo (1 + Lm.sizes (t.subs.take k)) m) ∧ s.env 10 = .one (.st (.list (t.subs.map Ac))) ∧ s.env 11 = AK t.subs.length ∧ s.env 12 = AK k ∧ s.S 6 = none) t.subs.length ⟨0, Nat.zero_le _, rfl, by
  simp only [go_sem, fN, seval, eT, iR]
  rw [Bo]
  have z0 : Lm.sizes [] = 0 := rfl
  congr 3
  split <;> omega, rfl, rfl, rfl, rfl⟩ ?_
 rintro n ⟨env, S⟩ ⟨k, hk, rfl, e1, e10, e11, e12, s6⟩
 simp only at e1 e10 e11 e12 s6
 repeat' with_reducible first | refine W ?_ | refine Z0 ?_ | ((first | refine Wo fun K hK => ?_ | refine Wq ?_ | refine Wr ?_); (try simp only [go_sem, fN, seval, eT, iR, e1, e10, e11, e12, s6]); (repeat refine Ai ?_); (try (refine hK _ ?_; clear hK K)))
 with_reducible refine Wp ?_
 simp only [go_sem, fN, seval, true_implies, false_implies, implies_true, dT, dF, nL, e1, e10, e11, e12, s6]
 (try with_reducible refine iC ?_)
 refine ⟨fun hlt => ?_, fun hge => ?_⟩
 ·obtain ⟨a, ha⟩ := Ak (show k < t.subs.length by omega)
  have z1 := Lm.sizes_take ha
  have z2 := Lm.sizes_take_le t.subs (k + 1)
  have z3 := Lm.length_le t.subs
  have z4 := L9 (1 + Lm.sizes (t.subs.take k)) m h0
  repeat' with_reducible first | refine W ?_ | refine Z0 ?_ | ((first | refine Wo fun K hK => ?_ | refine Wq ?_ | refine Wr ?_); (try simp only [go_sem, fN, seval, eT, iR, e1, e10, e11, e12, s6, ha]); (repeat refine Ai ?_); (try (refine hK _ ?_; clear hK K)))
  with_reducible refine Wp ?_
  simp only [go_sem, fN, seval, true_implies, false_implies, implies_true, dT, dF, nL, e1]
  (try with_reducible refine iC ?_)
  refine ⟨fun hb => ?_, fun hb => ?_⟩
  ·repeat' with_reducible first | refine W ?_ | refine Z0 ?_ | ((first | refine Wo fun K hK => ?_ | refine Wq ?_ | refine Wr ?_); (try simp only [go_sem, fN, seval, eT, iR, e1]); (repeat refine Ai ?_); (try (refine hK _ ?_; clear hK K)))
   simp only [go_sem, fN, seval, AY, AS.result, AD, AE, AM, e1]
   rw [LT hb (show _ ≤ t.size by rw [hs]; omega)]
  ·repeat' (first | (with_reducible first | refine W ?_ | refine Z0 ?_ | ((first | refine Wo fun K hK => ?_ | refine Wq ?_ | refine Wr ?_); (try simp only [go_sem, fN, seval, eT, iR, e1, e10, e11, e12, s6, ha]); (repeat refine Ai ?_); (try (refine hK _ ?_; clear hK K)))) | refine Cg _ (ih _ (Lm.lt_of_sub (AJ ha)) a _ (by omega) (by omega) rfl) ?_)
   refine AH ⟨t.subs.length - (k + 1), by omega, k + 1, by omega, rfl, ?_⟩
   simp only [go_sem, fN, seval, AS.drop, AN, AC.clears, AC.clear, AC.highs, AC.high, Bool.not_false, Bool.true_and, Bool.and_self, AV.purge, AV.purges, AC.purge, AI.purge, List.contains_cons, List.contains_nil, Nat.reduceBEq, Bool.or_self, Bool.or_false, Bool.false_or, Bool.or_true, eT, iR, e1, e10, e11, e12, s6]
   exact ⟨by rw [Jj (by omega), z1]; congr 4; omega, by congr 3⟩
 ·repeat' with_reducible first | refine W ?_ | refine Z0 ?_ | ((first | refine Wo fun K hK => ?_ | refine Wq ?_ | refine Wr ?_); (try simp only [go_sem, fN, seval, eT, iR, e1]); (repeat refine Ai ?_); (try (refine hK _ ?_; clear hK K)))
  simp only [go_sem, fN, seval, AY, AS.result, AD, AE, AM, e1]
  rw [List.take_of_length_le (by omega), hs]
theorem Ef (t : Lm) (hz : t.size ≤ 1000000000) : Aa Tryd.prog 32 [aLm t] (AK t.size) := by
 induction h : SizeOf.sizeOf t using Nat.strongRecOn generalizing t with
 | _ N ih =>
 subst h
 have hs := Lm.size_eq t
 have hkn := Lm.length_le t.subs
 refine Hq.ac fun C hC => ?_
 unfold EO
 repeat' with_reducible first | refine W ?_ | refine Z0 ?_ | ((first | refine Wo fun K hK => ?_ | refine Wq ?_ | refine Wr ?_); (try simp only [go_sem, fN, seval, eT, iR]); (repeat refine Ai ?_); (try (refine hK _ ?_; clear hK K)))
 refine IWP.loopD [5] (fun n s => ∃ k, k ≤ t.subs.length ∧ n = t.subs.length - k ∧ s.env 3 = AK ((1 + Lm.sizes (t.subs.take k) : Nat)) ∧ s.env 7 = .one (.st (.list (t.subs.map Ac))) ∧ s.env 8 = AK t.subs.length ∧ s.env 9 = AK k ∧ s.S 5 = none) t.subs.length ⟨0, Nat.zero_le _, rfl, rfl, rfl, rfl, rfl, rfl⟩ ?_
 rintro n ⟨env, S⟩ ⟨k, hk, rfl, e3, e7, e8, e9, s5⟩
 simp only at e3 e7 e8 e9 s5
 repeat' with_reducible first | refine W ?_ | refine Z0 ?_ | ((first | refine Wo fun K hK => ?_ | refine Wq ?_ | refine Wr ?_); (try simp only [go_sem, fN, seval, eT, iR, e3, e7, e8, e9, s5]); (repeat refine Ai ?_); (try (refine hK _ ?_; clear hK K)))
 with_reducible refine Wp ?_
 simp only [go_sem, fN, seval, true_implies, false_implies, implies_true, dT, dF, nL, e3, e7, e8, e9, s5]
 (try with_reducible refine iC ?_)
 refine ⟨fun hlt => ?_, fun hge => ?_⟩
 ·obtain ⟨a, ha⟩ := Ak (show k < t.subs.length by omega)
  have z1 := Lm.sizes_take ha
  have z2 := Lm.sizes_take_le t.subs (k + 1)
  have z3 := Lm.size_mem (AJ ha)
  repeat' (first | (with_reducible first | refine W ?_ | refine Z0 ?_ | ((first | refine Wo fun K hK => ?_ | refine Wq ?_ | refine Wr ?_); (try simp only [go_sem, fN, seval, eT, iR, e3, e7, e8, e9, s5, ha]); (repeat refine Ai ?_); (try (refine hK _ ?_; clear hK K)))) | refine Cg _ (ih _ (Lm.lt_of_sub (AJ ha)) a (by omega) rfl) ?_)
  refine AH ⟨t.subs.length - (k + 1), by omega, k + 1, by omega, rfl, ?_⟩
  simp only [go_sem, fN, seval, AS.drop, AN, AC.clears, AC.clear, AC.highs, AC.high, Bool.not_false, Bool.true_and, Bool.and_self, AV.purge, AV.purges, AC.purge, AI.purge, List.contains_cons, List.contains_nil, Nat.reduceBEq, Bool.or_self, Bool.or_false, Bool.false_or, Bool.or_true, eT, iR, e3, e7, e8, e9, s5]
  exact ⟨by rw [z1]; congr 3; omega, by congr 3⟩
 ·repeat' with_reducible first | refine W ?_ | refine Z0 ?_ | ((first | refine Wo fun K hK => ?_ | refine Wq ?_ | refine Wr ?_); (try simp only [go_sem, fN, seval, eT, iR, e3]); (repeat refine Ai ?_); (try (refine hK _ ?_; clear hK K)))
  simp only [go_sem, fN, seval, AY, AS.result, AD, AE, AM, e3]
  rw [List.take_of_length_le (by omega), hs]
theorem He (t : Lm) (m : Int) (h0 : 0 ≤ m) (h1 : m ≤ 9223372036854775806) : Aa Tryd.prog 23 [aLm t, AK m] (AK (Bg t.size m)) := by
 induction h : SizeOf.sizeOf t using Nat.strongRecOn generalizing t m with
 | _ N ih =>
 subst h
 have hs := Lm.size_eq t
 refine I0.ac fun C hC => ?_
 unfold FJ
 refine IWP.learn 0 (by omega) fun hkn => ?_
 have hkn := (HL hkn).2.2
 repeat' with_reducible first | refine W ?_ | refine Z0 ?_ | ((first | refine Wo fun K hK => ?_ | refine Wq ?_ | refine Wr ?_); (try simp only [go_sem, fN, seval, eT, iR]); (repeat refine Ai ?_); (try (refine hK _ ?_; clear hK K)))
 refine IWP.loop (fun n s => ∃ k, k ≤ t.subs.length ∧ n = t.subs.length - k ∧ s.env 5 = AK (Bg (1 + Lm.sizes (t.subs.take k)) m) ∧ s.env 1 = AK m ∧ s.env 2 = .one (.ptr 2 1 0 0) ∧ s.env 6 = AK k ∧ s.S 2 = some (.box 24 [.st (.int .i64 t.kind), .st (.int .i64 t.idx), .st (.list (t.subs.map Ac))])) t.subs.length ⟨0, Nat.zero_le _, rfl, by
  simp only [go_sem, fN, seval, eT, iR]
  rw [Bg]
  have z0 : Lm.sizes [] = 0 := rfl
  congr 3
  split <;> omega, rfl, rfl, rfl, rfl⟩ ?_
 rintro n ⟨env, S⟩ ⟨k, hk, rfl, e5, e1, e2, e6, s2⟩
 simp only at e5 e1 e2 e6 s2
 have z4 := J9 (1 + Lm.sizes (t.subs.take k)) m h0
 by_cases hlt : (k : Int) < t.subs.length
 ·obtain ⟨a, ha⟩ := Ak (show k < t.subs.length by omega)
  have z1 := Lm.sizes_take ha
  have z2 := Lm.sizes_take_le t.subs (k + 1)
  by_cases hb : m < Bg (1 + Lm.sizes (t.subs.take k)) m
  ·have hb' : ¬ Bg (1 + Lm.sizes (t.subs.take k)) m ≤ m := by omega
   repeat' with_reducible first | refine W ?_ | refine Z0 ?_ | ((first | refine Wo fun K hK => ?_ | refine Wq ?_ | refine Wr ?_); (try simp only [go_sem, fN, seval, eT, iR, e5, e1, e2, e6, s2, hlt, hb']); (repeat refine Ai ?_); (try (refine hK _ ?_; clear hK K)))
   with_reducible refine Wp ?_
   simp only [go_sem, fN, seval, true_implies, false_implies, implies_true, dT, dF, nL, hb']
   (try with_reducible refine iC ?_)
   repeat' with_reducible first | refine W ?_ | refine Z0 ?_ | ((first | refine Wo fun K hK => ?_ | refine Wq ?_ | refine Wr ?_); (try simp only [go_sem, fN, seval, eT, iR, e5, e1, e2, e6, s2]); (repeat refine Ai ?_); (try (refine hK _ ?_; clear hK K)))
   with_reducible refine Wp ?_
   simp only [go_sem, fN, seval, true_implies, false_implies, implies_true, dT, dF, nL, hb]
   (try with_reducible refine iC ?_)
   repeat' with_reducible first | refine W ?_ | refine Z0 ?_ | ((first | refine Wo fun K hK => ?_ | refine Wq ?_ | refine Wr ?_); (try simp only [go_sem, fN, seval, eT, iR, e1]); (repeat refine Ai ?_); (try (refine hK _ ?_; clear hK K)))
   simp only [go_sem, fN, seval, AY, AS.result, AD, AE, AM]
   rw [G_ hb (show _ ≤ t.size by rw [hs]; omega)]
  ·have hb' : Bg (1 + Lm.sizes (t.subs.take k)) m ≤ m := by omega
   obtain ⟨b1, b2⟩ := OS hb
   repeat' with_reducible first | refine W ?_ | refine Z0 ?_ | ((first | refine Wo fun K hK => ?_ | refine Wq ?_ | refine Wr ?_); (try simp only [go_sem, fN, seval, eT, iR, e5, e1, e2, e6, s2, hlt, hb']); (repeat refine Ai ?_); (try (refine hK _ ?_; clear hK K)))
   with_reducible refine Wp ?_
   simp only [go_sem, fN, seval, true_implies, false_implies, implies_true, dT, dF, nL, hb']
   (try with_reducible refine iC ?_)
   repeat' with_reducible first | refine W ?_ | refine Z0 ?_ | ((first | refine Wo fun K hK => ?_ | refine Wq ?_ | refine Wr ?_); (try simp only [go_sem, fN, seval, eT, iR, e5, e1, e2, e6, s2, ha]); (repeat refine Ai ?_); (try (refine hK _ ?_; clear hK K)))
   refine ⟨_, ih _ (Lm.lt_of_sub (AJ ha)) a (m - Bg (1 + Lm.sizes (t.subs.take k)) m) (by omega) (by omega) rfl, ?_⟩
   have z5 := J9 a.size (m - Bg (1 + Lm.sizes (t.subs.take k)) m) (by omega)
   repeat' with_reducible first | refine W ?_ | refine Z0 ?_ | ((first | refine Wo fun K hK => ?_ | refine Wq ?_ | refine Wr ?_); (try simp only [go_sem, fN, seval, eT, iR, e5, e1, e2, e6, s2]); (repeat refine Ai ?_); (try (refine hK _ ?_; clear hK K)))
   refine AH ⟨t.subs.length - (k + 1), by omega, k + 1, by omega, rfl, ?_⟩
   simp only [go_sem, fN, seval, eT, iR, e5, e1, e2, e6, s2]
   exact ⟨by rw [b1, LD b2, z1]; congr 4; omega, by congr 3⟩
 ·repeat' with_reducible first | refine W ?_ | refine Z0 ?_ | ((first | refine Wo fun K hK => ?_ | refine Wq ?_ | refine Wr ?_); (try simp only [go_sem, fN, seval, eT, iR, e5, e1, e2, e6, s2, hlt]); (repeat refine Ai ?_); (try (refine hK _ ?_; clear hK K)))
  with_reducible refine Wp ?_
  simp only [go_sem, fN, seval, true_implies, false_implies, implies_true, dT, dF, nL]
  (try with_reducible refine iC ?_)
  have hfull : 1 + Lm.sizes (t.subs.take k) = t.size := by rw [List.take_of_length_le (by omega), hs]
  rw [hfull] at e5 z4
  repeat' with_reducible first | refine W ?_ | refine Z0 ?_ | ((first | refine Wo fun K hK => ?_ | refine Wq ?_ | refine Wr ?_); (try simp only [go_sem, fN, seval, eT, iR, e5, e1]); (repeat refine Ai ?_); (try (refine hK _ ?_; clear hK K)))
  by_cases hb : m < Bg t.size m
  ·with_reducible refine Wp ?_
   simp only [go_sem, fN, seval, true_implies, false_implies, implies_true, dT, dF, nL, hb]
   (try with_reducible refine iC ?_)
   repeat' with_reducible first | refine W ?_ | refine Z0 ?_ | ((first | refine Wo fun K hK => ?_ | refine Wq ?_ | refine Wr ?_); (try simp only [go_sem, fN, seval, eT, iR, e1]); (repeat refine Ai ?_); (try (refine hK _ ?_; clear hK K)))
   simp only [go_sem, fN, seval, AY, AS.result, AD, AE, AM]
   rw [G_ hb (Nat.le_refl _)]
  ·with_reducible refine Wp ?_
   simp only [go_sem, fN, seval, true_implies, false_implies, implies_true, dT, dF, nL, hb]
   (try with_reducible refine iC ?_)
   repeat' with_reducible first | refine W ?_ | refine Z0 ?_ | ((first | refine Wo fun K hK => ?_ | refine Wq ?_ | refine Wr ?_); (try simp only [go_sem, fN, seval, eT, iR, e5]); (repeat refine Ai ?_); (try (refine hK _ ?_; clear hK K)))
   simp only [go_sem, fN, seval, AY, AS.result, AD, AE, AM, e5]
theorem Jx {k : Int} (h : 1 ≤ k ∧ k ≤ 5) : k = 1 ∨ k = 2 ∨ k = 3 ∨ k = 4 ∨ k = 5 := by omega
set_option maxHeartbeats 1000000 in
theorem Nj (t : Lm) (u m : Int) (hu : 0 ≤ u) (hz : u + t.size ≤ 1000000000) : Aa Tryd.prog 50 [aLm t, AK u, AK m] (AK (t.chk m u)) := by
 induction h : SizeOf.sizeOf t using Nat.strongRecOn generalizing t u with
 | _ N ih =>
 subst h
 have hs := Lm.size_eq t
 have hlen := Lm.length_le t.subs
 refine Ge.ac fun C hC => ?_
 unfold D1
 by_cases hk : 1 ≤ t.kind ∧ t.kind ≤ 5
 case neg =>
  rw [Lm.chk_eq, if_neg (fun h => hk ⟨h.1, h.2.1⟩)]
  by_cases h1 : t.kind < 1
  ·repeat' with_reducible first | refine W ?_ | refine Z0 ?_ | ((first | refine Wo fun K hK => ?_ | refine Wp ?_ | refine Wq ?_ | refine Wr ?_); (try simp only [go_sem, fN, seval, eT, iR, h1, dT, dF, nL]); (repeat refine Ai ?_); (try (refine hK _ ?_; clear hK K)); try refine iC ?_)
   simp only [go_sem, fN, seval, AY, AS.result, AD, AE, AM]
  ·have h5 : 5 < t.kind := by omega
   repeat' with_reducible first | refine W ?_ | refine Z0 ?_ | ((first | refine Wo fun K hK => ?_ | refine Wp ?_ | refine Wq ?_ | refine Wr ?_); (try simp only [go_sem, fN, seval, eT, iR, h1, h5, dT, dF, nL]); (repeat refine Ai ?_); (try (refine hK _ ?_; clear hK K)); try refine iC ?_)
   simp only [go_sem, fN, seval, AY, AS.result, AD, AE, AM]
 case pos =>
 have hk5 := Jx hk
 have q1 : ¬ t.kind < 1 := by omega
 have q5 : ¬ 5 < t.kind := by omega
 by_cases hl : (t.subs.length : Int) = BX t.kind
 case neg =>
  rw [Lm.chk_eq, if_neg (fun h => hl h.2.2)]
  rcases hk5 with hk5 | hk5 | hk5 | hk5 | hk5
  all_goals
   simp only [hk5, BX, Int.reduceEq, ↓reduceIte] at hl
   repeat' with_reducible first | refine W ?_ | refine Z0 ?_ | ((first | refine Wo fun K hK => ?_ | refine Wp ?_ | refine Wq ?_ | refine Wr ?_); (try simp only [go_sem, fN, seval, eT, iR, hk5, hl, dT, dF, nL]); (repeat refine Ai ?_); (try (refine hK _ ?_; clear hK K)); try refine iC ?_)
   simp only [go_sem, fN, seval, AY, AS.result, AD, AE, AM]
 case pos =>
 by_cases h0 : t.idx < 0
 case pos =>
  rw [Lm.chk_eq, if_pos ⟨hk.1, hk.2, hl⟩, if_neg (fun h => by omega)]
  rcases hk5 with hk5 | hk5 | hk5 | hk5 | hk5
  all_goals
   simp only [hk5, BX, Int.reduceEq, ↓reduceIte] at hl
   repeat' with_reducible first | refine W ?_ | refine Z0 ?_ | ((first | refine Wo fun K hK => ?_ | refine Wp ?_ | refine Wq ?_ | refine Wr ?_); (try simp only [go_sem, fN, seval, eT, iR, hk5, hl, h0, dT, dF, nL]); (repeat refine Ai ?_); (try (refine hK _ ?_; clear hK K)); try refine iC ?_)
   simp only [go_sem, fN, seval, AY, AS.result, AD, AE, AM]
 case neg =>
 by_cases hm : Ca t.kind u m ≤ t.idx
 case pos =>
  rw [Lm.chk_eq, if_pos ⟨hk.1, hk.2, hl⟩, if_neg (fun h => by omega)]
  rcases hk5 with hk5 | hk5 | hk5 | hk5 | hk5
  all_goals
   simp only [hk5, BX, Ca, Int.reduceEq, ↓reduceIte] at hl hm
   repeat' with_reducible first | refine W ?_ | refine Z0 ?_ | ((first | refine Wo fun K hK => ?_ | refine Wp ?_ | refine Wq ?_ | refine Wr ?_); (try simp only [go_sem, fN, seval, eT, iR, hk5, hl, h0, hm, dT, dF, nL]); (repeat refine Ai ?_); (try (refine hK _ ?_; clear hK K)); try refine iC ?_)
   simp only [go_sem, fN, seval, AY, AS.result, AD, AE, AM]
 case neg =>
 rw [Lm.chk_eq, if_pos ⟨hk.1, hk.2, hl⟩, if_pos (by omega)]
 rcases hk5 with hk5 | hk5 | hk5 | hk5 | hk5
 all_goals
  simp only [hk5, BX, Ca, Int.reduceEq, ↓reduceIte] at hl hm
  repeat' with_reducible first | refine W ?_ | refine Z0 ?_ | ((first | refine Wo fun K hK => ?_ | refine Wp ?_ | refine Wq ?_ | refine Wr ?_); (try simp only [go_sem, fN, seval, eT, iR, hk5, hl, h0, hm, dT, dF, nL]); (repeat refine Ai ?_); (try (refine hK _ ?_; clear hK K)); try refine iC ?_)
  refine IWP.loopD [9] (fun n s => ∃ k, k ≤ t.subs.length ∧ n = t.subs.length - k ∧ Lm.chks m (t.subs.take k) (Af t.kind u) = 0 ∧ s.env 1 = AK (Af t.kind u) ∧ s.env 2 = AK m ∧ s.env 54 = .one (.st (.list (t.subs.map Ac))) ∧ s.env 55 = AK t.subs.length ∧ s.env 56 = AK k ∧ s.S 9 = none) t.subs.length ⟨0, Nat.zero_le _, rfl, rfl, by simp only [hk5, Af]; rfl, rfl, rfl, by simp only [go_sem, fN, seval, eT, iR, hl], rfl, rfl⟩ ?_
  rintro n ⟨env, S⟩ ⟨k, hk', rfl, hc, e1, e2, e54, e55, e56, s9⟩
  simp only at e1 e2 e54 e55 e56 s9
  by_cases hlt : (k : Int) < t.subs.length
  ·obtain ⟨a, ha⟩ := Ak (show k < t.subs.length by omega)
   have z3 := Lm.size_mem (AJ ha)
   have hu2 : Af t.kind u ≤ u + 1 ∧ 0 ≤ Af t.kind u := by unfold Af; split <;> omega
   repeat' with_reducible first | refine W ?_ | refine Z0 ?_ | ((first | refine Wo fun K hK => ?_ | refine Wp ?_ | refine Wq ?_ | refine Wr ?_); (try simp only [go_sem, fN, seval, eT, iR, e1, e2, e54, e55, e56, s9, ha, hlt, dT, dF, nL]); (repeat refine Ai ?_); (try (refine hK _ ?_; clear hK K)); try refine iC ?_)
   refine ⟨_, ih _ (Lm.lt_of_sub (AJ ha)) a (Af t.kind u) hu2.2 (by omega) rfl, ?_⟩
   by_cases hr : a.chk m (Af t.kind u) = 0
   ·repeat' with_reducible first | refine W ?_ | refine Z0 ?_ | ((first | refine Wo fun K hK => ?_ | refine Wp ?_ | refine Wq ?_ | refine Wr ?_); (try simp only [go_sem, fN, seval, eT, iR, e1, e2, e54, e55, e56, s9, hr, dT, dF, nL]); (repeat refine Ai ?_); (try (refine hK _ ?_; clear hK K)); try refine iC ?_)
    refine AH ⟨t.subs.length - (k + 1), by omega, k + 1, by omega, rfl, ?_⟩
    simp only [go_sem, fN, seval, AS.drop, AN, AC.clears, AC.clear, AC.highs, AC.high, Bool.not_false, Bool.true_and, Bool.and_self, AV.purge, AV.purges, AC.purge, AI.purge, List.contains_cons, List.contains_nil, Nat.reduceBEq, Bool.or_self, Bool.or_false, Bool.false_or, Bool.or_true, eT, iR, e1, e2, e54, e55, e56, s9]
    exact ⟨by rw [Lm.chks_take ha hc, hr], by congr 3⟩
   ·repeat' with_reducible first | refine W ?_ | refine Z0 ?_ | ((first | refine Wo fun K hK => ?_ | refine Wp ?_ | refine Wq ?_ | refine Wr ?_); (try simp only [go_sem, fN, seval, eT, iR, e1, e2, e54, e55, e56, s9, hr, dT, dF, nL]); (repeat refine Ai ?_); (try (refine hK _ ?_; clear hK K)); try refine iC ?_)
    simp only [go_sem, fN, seval, AY, AS.result, AD, AE, AM]
    simp only [hk5] at hc hr ⊢
    rw [Lm.chks_bad (k := k + 1) (by rw [Lm.chks_take ha hc]; exact hr), Lm.chks_take ha hc]
  ·repeat' with_reducible first | refine W ?_ | refine Z0 ?_ | ((first | refine Wo fun K hK => ?_ | refine Wp ?_ | refine Wq ?_ | refine Wr ?_); (try simp only [go_sem, fN, seval, eT, iR, e1, e2, e54, e55, e56, s9, hlt, dT, dF, nL]); (repeat refine Ai ?_); (try (refine hK _ ?_; clear hK K)); try refine iC ?_)
   simp only [go_sem, fN, seval, AY, AS.result, AD, AE, AM]
   rw [List.take_of_length_le (by omega)] at hc
   simp only [hk5] at hc ⊢
   rw [hc]
theorem HR {s : Nat} {m : Int} (h : 0 ≤ m) : Bo s m < 0 ↔ m < s := by
 unfold Bo
 split <;> omega
theorem Ba (t : Lm) (u m : Int) : Aa Tryd.prog 31 [aLm t, AK u, AK m] (AK (t.may m u)) := by
 refine El.ac fun C hC => ?_
 unfold Ci
 unfold Lm.may
 by_cases h0 : u < 0
 ·rw [if_pos (Or.inl h0)]
  repeat' with_reducible first | refine W ?_ | refine Z0 ?_ | ((first | refine Wo fun K hK => ?_ | refine Wp ?_ | refine Wq ?_ | refine Wr ?_); (try simp only [go_sem, fN, seval, eT, iR, h0, dT, dF, nL]); (repeat refine Ai ?_); (try (refine hK _ ?_; clear hK K)); try refine iC ?_)
  simp only [go_sem, fN, seval, AY, AS.result, AD, AE, AM]
 by_cases h1 : 40 < u
 ·rw [if_pos (Or.inr h1)]
  repeat' with_reducible first | refine W ?_ | refine Z0 ?_ | ((first | refine Wo fun K hK => ?_ | refine Wp ?_ | refine Wq ?_ | refine Wr ?_); (try simp only [go_sem, fN, seval, eT, iR, h0, h1, dT, dF, nL]); (repeat refine Ai ?_); (try (refine hK _ ?_; clear hK K)); try refine iC ?_)
  simp only [go_sem, fN, seval, AY, AS.result, AD, AE, AM]
 rw [if_neg (by omega)]
 have hw := @HR t.size 200 (by decide)
 by_cases hz : 200 < t.size
 ·have hz' := hw.2 (by omega)
  rw [if_pos hz]
  repeat' (first | (with_reducible first | refine W ?_ | refine Z0 ?_ | ((first | refine Wo fun K hK => ?_ | refine Wp ?_ | refine Wq ?_ | refine Wr ?_); (try simp only [go_sem, fN, seval, eT, iR, h0, h1, hz', dT, dF, nL]); (repeat refine Ai ?_); (try (refine hK _ ?_; clear hK K)); try refine iC ?_)) | refine Cg _ (Il t 200 (by decide) (by decide)) ?_)
  simp only [go_sem, fN, seval, AY, AS.result, AD, AE, AM]
 ·have hz' : ¬ Bo t.size 200 < 0 := fun h => hz (by have := hw.1 h; omega)
  rw [if_neg hz]
  repeat' (first | (with_reducible first | refine W ?_ | refine Z0 ?_ | ((first | refine Wo fun K hK => ?_ | refine Wp ?_ | refine Wq ?_ | refine Wr ?_); (try simp only [go_sem, fN, seval, eT, iR, h0, h1, hz', dT, dF, nL]); (repeat refine Ai ?_); (try (refine hK _ ?_; clear hK K)); try refine iC ?_)) | refine Cg _ (Il t 200 (by decide) (by decide)) ?_ | refine Cg _ (Nj t u m (by omega) (by omega)) ?_)
  simp only [go_sem, fN, seval, AY, AS.result, AD, AE, AM]

end Go.Proofs.YtcgnojefbalbbaaDoor
