/-
  Part 5 of the texts. Conditions: none.
-/
import Derived.Test.YtkegjgodjigjfaaNer4
namespace Go.Proofs.Ytkegjgodjigjfaa
open Go Go.RowKit
set_option linter.unusedVariables false
set_option maxHeartbeats 400000
def JO (hints : List Nat) (ks : List Ins) : Nat → Nat → Nat
 | 0, t => t
 | f + 1, t => match hints.find? fun m => m / 10000 == 1000 + t with
  | some m => m % 10000
  | none => match ks.find? fun k => k.dst == some t with
   | some k => match k.kd with
    | .mov (.t u) => JO hints ks f u
    | .fieldAddr _ (.t u) => JO hints ks f u
    | .nilCheck (.t u) => JO hints ks f u
    | _ => t
   | none => t
def M2 (ops : List Oper) (ks : List Ins) : List (Nat × Nat) :=
 (List.range ops.length).flatMap fun i => (List.range i).filterMap fun j => match ks[j]?, ks[i]? with
  | some x, some y => if x.indep y || E_ ops ops.length j i then none else some (j, i)
  | _, _ => none
def JS (hints : List Nat) (ks : List Ins) (i : Nat) : Option Nat := match ks[i]? with
 | some k => match k.kd with
  | .indexAddr _ (.t u) _ => (hints.find? fun m => m / 10000 == 1000 + u).map (· % 10000)
  | .indexAddr _ _ _ => none
  | kd => match kd.ptrOpd with
   | some (.t u) => some (JO hints ks ks.length u)
   | _ => none
 | none => none
def QX (hints : List Nat) (ks : List Ins) (conf : List (Nat × Nat)) (i : Nat) : Tag :=
 if conf.any fun p => p.1 == i || p.2 == i then match ks[i]? with
  | some k => match k.kd with
   | .load _ _ _ | .store _ _ _ | .fieldAddr _ _ | .nilCheck _ | .indexAddr _ _ _ => match JS hints ks i with
    | some id => .onb id
    | none => .no
   | .callS _ _ | .callV _ _ | .callN _ _ | .append _ _ _ _ _ _ => .keeps (conf.filterMap fun p => if p.1 == i then JS hints ks p.2 else if p.2 == i then JS hints ks p.1 else none)
   | _ => .no
  | none => .no
 else .no
def PC (mu : List Nat) (ops : List Oper) (ks : List Ins) : List Ins := Md (QX (mu.filter fun m => 10000000 ≤ m) ks (M2 ops ks)) 0 ks
def At (P : Program) (n : Nat) (mu : List Nat) : Code → Option IR
 | .skip => some .skip
 | .region _ ops draw => match Gx P n mu ops.toList ops.toList with
  | some ks => if draw then if P.follows .mixedOrders && JK ops.toList ks then some (.ops ks) else if P.follows .mixedOrders && JK ops.toList (PC mu ops.toList ks) then some (.ops (PC mu ops.toList ks)) else none else some (.ops ks)
  | none => none
 | .seq x y => match At P n mu x, At P n mu y with
  | some x', some y' => some (.seq x' y')
  | _, _ => none
 | .cond c x y => match AH n c, At P n mu x, At P n mu y with
  | some c', some x', some y' => some (.cond c' x' y')
  | _, _, _ => none
 | .block id x => (At P n mu x).map (.block id)
 | .loop x => (At P n mu x).map .loop
 | .rangeFunc g ps x y => match AH n g, At P n mu x, At P n mu y with
  | some g', some x', some y' => if ps.toList.all (fun p => decide (p < n)) then some (.rangeF g' ps.toList x' y') else none
  | _, _, _ => none
 | .exit id => some (.exit id)
 | .ret => some .ret
 | _ => none
inductive AX where
 | normal
 | exit (id : Nat)
 | ret
 | pan (v : Value)
def Qe (C : Ctx) (Q : AX → AS → Prop) : Exit → Act → World → Prop
 | .normal, a, w => ∃ s, Q .normal s ∧ As C s a w
 | .exit id, a, w => ∃ s, Q (.exit id) s ∧ As C s a w
 | .ret, a, w => ∃ s, Q .ret s ∧ As C s a w
 | .panic ch, a, w => ∃ s v, (Q (.pan v) s ∧ ch = [{ v := v, recovered := false }]) ∧ As C s a w
 | _, _, _ => False
def IWP (P : Program) (C : Ctx) (mu : List Nat) (x : IR) (Q : AX → AS → Prop) (s : AS) : Prop :=
 ∀ c, At P C.n mu c = some x → ∀ a w, As C s a w → c.wpIn (fen C.ro) 0 P (Qe C Q) a w
def AZ (C : Ctx) (s s' : AS) : Prop := ∀ a w, As C s a w → As C s' a w
def AX.then (K : AS → Prop) (Q : AX → AS → Prop) : AX → AS → Prop
 | .normal, s => K s
 | e, s => Q e s
def AX.inBlock (id : Nat) (Q : AX → AS → Prop) : AX → AS → Prop
 | .exit id', s => if id' = id then Q .normal s else Q (.exit id') s
 | e, s => Q e s
section
variable {P : Program} {C : Ctx} {mu : List Nat} {Q Q' : AX → AS → Prop} {s s' : AS} {x y : IR}
theorem IWP.mono (h : IWP P C mu x Q s) (hq : ∀ e s, Q e s → Q' e s) : IWP P C mu x Q' s := fun c hc a w hH => wpIn_mono (h c hc a w hH) fun e a' w' he => by
 cases e <;> first | exact he | (obtain ⟨s1, v, h1, h2⟩ := he; exact ⟨s1, v, ⟨hq _ _ h1.1, h1.2⟩, h2⟩) | (obtain ⟨s1, h1, h2⟩ := he; exact ⟨s1, hq _ _ h1, h2⟩)
theorem IWP.ghost (hg : AZ C s s') (h : IWP P C mu x Q s') : IWP P C mu x Q s := fun c hc a w hH => h c hc a w (hg a w hH)
theorem AZ.refl (C : Ctx) (s : AS) : AZ C s s := fun _ _ h => h
theorem AZ.trans {s1 s2 s3 : AS} (h : AZ C s1 s2) (k : AZ C s2 s3) : AZ C s1 s3 := fun a w hH => k a w (h a w hH)
theorem IWP.skip (h : Q .normal s) : IWP P C mu .skip Q s := fun c hc a w hH => by
 cases c <;> simp only [At] at hc <;> first | exact wpIn_skip ⟨s, h, hH⟩ | (exfalso; revert hc; (repeat' split) <;> simp)
theorem IWP.ops {l : List Ins} (h : Run P l s (Q .normal)) : IWP P C mu (.ops l) Q s := fun c hc a w hH => by
 cases c <;> simp only [At] at hc
 case region id ops draw =>
  split at hc
  ·rename_i ks e1
   obtain ⟨σ, ι, R⟩ := hH
   cases draw with
   | true =>
    simp only [if_true] at hc
    split at hc
    ·rename_i h1
     cases hc
     simp only [Bool.and_eq_true] at h1
     exact HO h1.1 e1 (KL.refl _) h1.2 R h fun s' a' w' hs hh => ⟨s', hs, hh⟩
    ·split at hc
     ·rename_i h1
      cases hc
      simp only [Bool.and_eq_true] at h1
      exact HO h1.1 e1 (KP _ 0 _) h1.2 R h fun s' a' w' hs hh => ⟨s', hs, hh⟩
     ·cases hc
   | false =>
    simp only [Bool.false_eq_true, if_false, Option.some.injEq, IR.ops.injEq] at hc
    subst hc
    exact KI e1 R h fun s' a' w' hs hh => ⟨s', hs, hh⟩
  ·cases hc
 all_goals (exfalso; revert hc; (repeat' split) <;> simp)
def KH (P : Program) (C : Ctx) (mu : List Nat) (y : IR) (Q : AX → AS → Prop) : AX → AS → Prop := AX.then (IWP P C mu y Q) Q
theorem EQ (h : IWP P C mu y Q s) : KH P C mu y Q .normal s := h
theorem IQ {id : Nat} (h : Q (.exit id) s) : KH P C mu y Q (.exit id) s := h
theorem KY (h : Q .ret s) : KH P C mu y Q .ret s := h
theorem EB {id : Nat} (h : Q .normal s) : AX.inBlock id Q .normal s := h
theorem Fp {id : Nat} (h : Q .normal s) : AX.inBlock id Q (.exit id) s := by simp only [AX.inBlock, if_true]; exact h
theorem Fs {id id' : Nat} (hne : id' ≠ id) (h : Q (.exit id') s) : AX.inBlock id Q (.exit id') s := by simp only [AX.inBlock, hne, if_false]; exact h
theorem GT {id : Nat} (h : Q .ret s) : AX.inBlock id Q .ret s := h
theorem AI {K : AS → Prop} (h : K s) : AX.then K Q .normal s := h
theorem If {K : AS → Prop} {id : Nat} (h : Q (.exit id) s) : AX.then K Q (.exit id) s := h
theorem KE {K : AS → Prop} (h : Q .ret s) : AX.then K Q .ret s := h
theorem IWP.opsK {l : List Ins} (h : ∀ K : AS → Prop, (∀ s, Q .normal s → K s) → Run P l s K) : IWP P C mu (.ops l) Q s := IWP.ops (h _ fun _ h => h)
theorem IWP.seq (h : IWP P C mu x (KH P C mu y Q) s) : IWP P C mu (.seq x y) Q s := fun c hc a w hH => by
 cases c <;> simp only [At] at hc
 case seq c1 c2 =>
  split at hc
  ·rename_i x' y' e1 e2
   cases hc
   refine wpIn_seq (wpIn_mono (h c1 e1 a w hH) fun e a' w' he => ?_)
   cases e <;> first | exact he | (obtain ⟨s1, h1, h2⟩ := he; exact h1 c2 e2 a' w' h2)
  ·cases hc
 all_goals (exfalso; revert hc; (repeat' split) <;> simp)
theorem IWP.cond {c0 : Opd} (h : match s.ev c0 with | .one (.st (.bool b)) => (b = true → IWP P C mu x Q s) ∧ (b = false → IWP P C mu y Q s) | .one .ubool => IWP P C mu x Q s ∧ IWP P C mu y Q s | _ => False) : IWP P C mu (.cond c0 x y) Q s := fun c hc a w hH => by
 cases c <;> simp only [At] at hc
 case cond cc c1 c2 =>
  split at hc
  ·rename_i c' x' y' e0 e1 e2
   cases hc
   split at h
   ·rename_i b eb
    obtain ⟨σ, ι, R⟩ := hH
    have rb := R.ev e0
    rw [eb] at rb
    exact wpIn_cond_split (CU rb) (fun ht => h.1 ht c1 e1 a w ⟨σ, ι, R⟩) (fun ht => h.2 ht c2 e2 a w ⟨σ, ι, R⟩)
   ·rename_i eb
    obtain ⟨σ, ι, R⟩ := hH
    have rb := R.ev e0
    rw [eb] at rb
    obtain ⟨b, hb⟩ := K8 rb
    exact wpIn_cond_split hb (fun _ => h.1 c1 e1 a w ⟨σ, ι, R⟩) (fun _ => h.2 c2 e2 a w ⟨σ, ι, R⟩)
   ·exact h.elim
  ·cases hc
 all_goals (exfalso; revert hc; (repeat' split) <;> simp)
theorem IWP.block {id : Nat} (h : IWP P C mu x (AX.inBlock id Q) s) : IWP P C mu (.block id x) Q s := fun c hc a w hH => by
 cases c <;> simp only [At] at hc
 case block id' c1 =>
  rw [Option.map_eq_some_iff] at hc
  obtain ⟨x', e1, e2⟩ := hc
  cases e2
  refine wpIn_block (wpIn_mono (h c1 e1 a w hH) fun e a' w' he => ?_)
  cases e <;> first | exact he | skip
  case exit id2 =>
   obtain ⟨s1, h1, h2⟩ := he
   simp only [AX.inBlock] at h1
   simp only [Exit.inBlock]
   by_cases e : id2 = id
   ·rw [if_pos e] at h1 ⊢
    exact ⟨s1, h1, h2⟩
   ·rw [if_neg e] at h1 ⊢
    exact ⟨s1, h1, h2⟩
 all_goals (exfalso; revert hc; (repeat' split) <;> simp)
theorem IWP.exit {id : Nat} (h : Q (.exit id) s) : IWP P C mu (.exit id) Q s := fun c hc a w hH => by
 cases c <;> simp only [At] at hc
 case exit id' =>
  cases hc
  exact wpIn_exit ⟨s, h, hH⟩
 all_goals (exfalso; revert hc; (repeat' split) <;> simp)
theorem IWP.ret (h : Q .ret s) : IWP P C mu .ret Q s := fun c hc a w hH => by
 cases c <;> simp only [At] at hc
 case ret => exact wpIn_ret ⟨s, h, hH⟩
 all_goals (exfalso; revert hc; (repeat' split) <;> simp)
theorem IWP.loop (Inv : Nat → AS → Prop) (m0 : Nat) (h0 : Inv m0 s) (h : ∀ m s, Inv m s → IWP P C mu x (AX.then (fun s' => ∃ m', m' < m ∧ Inv m' s') Q) s) : IWP P C mu (.loop x) Q s := fun c hc a w hH => by
 cases c <;> simp only [At] at hc
 case loop c1 =>
  rw [Option.map_eq_some_iff] at hc
  obtain ⟨x', e1, e2⟩ := hc
  cases e2
  have least : ∀ a w, (∃ m s, Inv m s ∧ As C s a w) → ∃ m, (∃ s, Inv m s ∧ As C s a w) ∧ ∀ m', (∃ s, Inv m' s ∧ As C s a w) → m ≤ m' := fun a w ⟨m, s, h1, h2⟩ => by
   have key : ∀ n m, m ≤ n → (∃ s, Inv m s ∧ As C s a w) → ∃ m, (∃ s, Inv m s ∧ As C s a w) ∧ ∀ m', (∃ s, Inv m' s ∧ As C s a w) → m ≤ m' := by
    intro n
    induction n with
    | zero => intro m hm hs; exact ⟨m, hs, fun m' _ => by omega⟩
    | succ n ih =>
     intro m hm hs
     by_cases hex : ∃ m', m' < m ∧ ∃ s, Inv m' s ∧ As C s a w
     ·obtain ⟨m', hlt, hs'⟩ := hex
      exact ih m' (by omega) hs'
     ·refine ⟨m, hs, fun m' hs' => ?_⟩
      rcases Nat.lt_or_ge m' m with hlt | hge
      ·exact absurd ⟨m', hlt, hs'⟩ hex
      ·exact hge
   exact key m m (Nat.le_refl _) ⟨s, h1, h2⟩
  open Classical in
  refine wpIn_loop (fun a w => ∃ m s, Inv m s ∧ As C s a w) (fun a w => if hx : ∃ m s, Inv m s ∧ As C s a w then (least a w hx).choose else 0) ⟨m0, s, h0, hH⟩ fun a w hI => ?_
  obtain ⟨⟨s1, i1, i2⟩, hmin⟩ := (least a w hI).choose_spec
  refine wpIn_mono (h _ s1 i1 c1 e1 a w i2) fun e a' w' he => ?_
  cases e <;> first | exact he | skip
  case normal =>
   obtain ⟨s2, ⟨m', hlt, hinv⟩, hH2⟩ := he
   have hx' : ∃ m s, Inv m s ∧ As C s a' w' := ⟨m', s2, hinv, hH2⟩
   refine ⟨hx', ?_⟩
   rw [dif_pos hx', dif_pos hI]
   have := (least a' w' hx').choose_spec.2 m' ⟨s2, hinv, hH2⟩
   omega
 all_goals (exfalso; revert hc; (repeat' split) <;> simp)
end
mutual
def SV.known : SV → Prop
 | .int k n => inR k n
 | .str b => b.size ≤ maxLen
 | .list xs => xs.length ≤ maxLen ∧ SV.knownLL xs
 | _ => True
def SV.knownLL : List (List SV) → Prop
 | [] => True
 | x :: xs => SV.knownL x ∧ SV.knownLL xs
def SV.knownL : List SV → Prop
 | [] => True
 | c :: cs => c.known ∧ SV.knownL cs
end
theorem Dv : ∀ {l : List SV}, SV.knownL l ↔ ∀ c ∈ l, c.known
 | [] => by simp [SV.knownL]
 | c :: cs => by simp [SV.knownL, Dv (l := cs)]
theorem C7 : ∀ {l : List (List SV)}, SV.knownLL l ↔ ∀ x ∈ l, SV.knownL x
 | [] => by simp [SV.knownLL]
 | c :: cs => by simp [SV.knownLL, C7 (l := cs)]
def AC.known (S : AA) : AC → Prop
 | .st c => c.known
 | .full xs => xs.length ≤ maxLen ∧ SV.knownLL xs
 | _ => True
def AV.known (S : AA) : AV → Prop
 | .one c => c.known S
 | .agg cs => ∀ c ∈ cs, c.known S
 | _ => True
theorem Ab.known {σ : Sto} {v : Value} {c : SV} (h : Ab σ v c) : c.known := by
 induction h with
 | int h => exact h
 | str h => exact h
 | @list p len cap b o w xs c h1 h2 h3 h4 h5 h6 hh h7 h8 ih =>
  refine ⟨by omega, C7.2 fun x hx => Dv.2 fun y hy => ?_⟩
  obtain ⟨k, hk, rfl⟩ := List.getElem_of_mem hx
  obtain ⟨j, hj, rfl⟩ := List.getElem_of_mem hy
  exact ih k _ j _ (List.getElem?_eq_getElem hk) (List.getElem?_eq_getElem hj)
 | _ => trivial
theorem AW.known {σ : Sto} {S : AA} {ι : Ac} {v : Value} {c : AC} (h : AW σ S ι v c) : c.known S := by
 cases h with
 | st h => exact h.known
 | full h => exact h.known
 | _ => trivial
theorem AK.known {σ : Sto} {S : AA} {ι : Ac} {v : Value} {c : AV} (h : AK σ S ι v c) : c.known S := by
 cases h with
 | one h => exact h.known
 | agg h =>
  intro c hc
  obtain ⟨i, hi, rfl⟩ := List.getElem_of_mem hc
  obtain ⟨b, _, hb⟩ := h.get (List.getElem?_eq_getElem hi)
  exact hb.known
 | _ => trivial
theorem IWP.learn {P : Program} {C : Ctx} {mu : List Nat} {Q : AX → AS → Prop} {s : AS} {x : IR} (t : Nat) (ht : t < C.n) (h : (s.env t).known s.S → IWP P C mu x Q s) : IWP P C mu x Q s := fun c hc a w hH => by
 obtain ⟨σ, ι, R⟩ := hH
 exact h (R.env t ht).known c hc a w ⟨σ, ι, R⟩
inductive RV where
 | t (i : Nat)
 | cell (i : Nat) (g : Bool) (n : Nat)
def Cx (P : Program) (n : Nat) : List ResultVar → Option (List RV)
 | [] => some []
 | .tmp t :: l => match Cx P n l with
  | some r => if t < n then some (.t t :: r) else none
  | none => none
 | .cell t ty :: l => match Cx P n l, J0 P ty with
  | some r, some (g, k) => if t < n then some (.cell t g k :: r) else none
  | _, _ => none
def AR (s : AS) : RV → Option AV
 | .t i => some (s.env i)
 | .cell i g n => match s.env i with
  | .one (.ptr id m k off) => match CC s.S id m k with
   | some cs => if off + n ≤ cs.length then some (Kx g ((cs.drop off).take n)) else none
   | none => none
  | _ => none
def AO (s : AS) : List RV → Option (List AV)
 | [] => some []
 | r :: l => match AR s r, AO s l with
  | some v, some vs => some (v :: vs)
  | _, _ => none
def Av : List AV → AV
 | [v] => v
 | vs => .tup vs
def AS.result (s : AS) (rs : List RV) : Option AV := match AO s rs with
 | some vs => outV s.S (Av vs)
 | none => none
def Gy (tmps : Array Value) : ResultVar → Sem Value
 | .tmp t => pure (tmps.getD t undef)
 | .cell x t => do loadVar t (← asAddr (tmps.getD x undef))
theorem Le (fn : Func) (tmps : Array Value) : results fn tmps = (do
  let vs ← fn.results.mapM (Gy tmps)
  pure (if h : vs.size = 1 then vs[0] else .tuple vs)) := rfl
section
variable {P : Program} {C : Ctx} {a : Act} {w : World} {σ : Sto} {ι : Ac} {s : AS}
theorem FO (R : AJ C σ ι s a w) : ∀ {l : List ResultVar} {rs : List RV} {vs : List AV}, Cx P C.n l = some rs → AO s rs = some vs →
  ∃ xs : List Value, (l.mapM (Gy a.tmps)).run P w = .ok xs w ∧ AN (AK σ s.S ι) xs vs
 | [], rs, vs, h1, h2 => by
  simp only [Cx, Option.some.injEq] at h1
  subst h1
  simp only [AO, Option.some.injEq] at h2
  subst h2
  exact ⟨[], by simp, .nil⟩
 | .tmp t :: l, rs, vs, h1, h2 => by
  simp only [Cx] at h1
  split at h1
  ·rename_i r e1
   split at h1
   ·rename_i hlt
    cases h1
    simp only [AO, AR] at h2
    split at h2
    ·rename_i v vs' e2 e3
     cases h2
     cases e2
     obtain ⟨xs, k1, k2⟩ := FO R e1 e3
     exact ⟨_ :: xs, by simp [List.mapM_cons, Gy, k1], .cons (R.env t hlt) k2⟩
    ·cases h2
   ·cases h1
  ·cases h1
 | .cell t ty :: l, rs, vs, h1, h2 => by
  simp only [Cx] at h1
  split at h1
  ·rename_i r g k e1 e4
   split at h1
   ·rename_i hlt
    cases h1
    simp only [AO] at h2
    split at h2
    ·rename_i v vs' e2 e3
     cases h2
     obtain ⟨xs, k1, k2⟩ := FO R e1 e3
     simp only [AR] at e2
     split at e2
     ·rename_i id m kk off e5
      split at e2
      ·rename_i cs e6
       split at e2
       ·rename_i hle
        cases e2
        have rt := R.env t hlt
        rw [e5] at rt
        obtain ⟨b, oo, hex, ys, v2, v3⟩ := R.ptr_cells (AL rt) e6
        have hlen := v3.len
        obtain ⟨dd, i, q1, q2, q3, q4⟩ := E4 e4
        obtain ⟨v, r1, r2⟩ := Do (P := P) (w := w) (b := b) (o := oo + off) (cs := (ys.drop off).take k) q1 q2 (fun j v hj => by
         rw [List.getElem?_take] at hj
         split at hj
         ·rw [List.getElem?_drop] at hj
          rw [Nat.add_assoc]
          exact v2 _ _ hj
         ·cases hj) g q3 (by simp; omega)
        have r1' : (loadVar ty ⟨b, oo + off, none⟩).run P w = .ok v w := by
         simpa [Instr.loadAt, Instr.sureAddr] using r1
        exact ⟨v :: xs, by simp [List.mapM_cons, Gy, hex, asAddr, r1', k1], .cons (DS ((v3.drop off).take k) r2) k2⟩
       ·cases e2
      ·cases e2
     ·cases e2
    ·cases h2
   ·cases h1
  ·cases h1
theorem Gr {S : AA} {fn : Func} {tmps : Array Value} {xs : List Value} {vs : List AV} (k1 : (fn.results.toList.mapM (Gy tmps)).run P w = .ok xs w) (k2 : AN (AK σ S ι) xs vs) : ∃ v, (results fn tmps).run P w = .ok v w ∧ AK σ S ι v (Av vs) := by
 have hl := k2.len
 have hrun : (results fn tmps).run P w = .ok (if h : xs.toArray.size = 1 then xs.toArray[0] else .tuple xs.toArray) w := by
  rw [Le, Array.mapM_eq_mapM_toList]
  simp [k1]
 refine ⟨_, hrun, ?_⟩
 match xs, vs, k2, hl with
 | [x], [v], k2, _ =>
  cases k2 with
  | cons k2 _ => simpa [Av] using k2
 | [], [], k2, _ => simpa [Av] using AK.tup (σ := σ) (S := S) (ι := ι) (vs := #[]) (ps := []) (fun _ => undef) rfl (by simp) (by simp)
 | x :: y :: xs, v :: v' :: vs, k2, hl =>
  have ht : Av (v :: v' :: vs) = .tup (v :: v' :: vs) := rfl
  rw [ht]
  have hne : ¬ (x :: y :: xs).toArray.size = 1 := by simp
  rw [dif_neg hne]
  refine .tup (fun j => ((x :: y :: xs)[j]?).getD undef) (by simpa using hl) (fun j b hb => ?_) (fun j b hb => ?_)
  ·obtain ⟨a1, h1, _⟩ := k2.get hb
   rw [h1]
   simpa using h1
  ·obtain ⟨a1, h1, h2⟩ := k2.get hb
   rw [h1]
   exact h2
theorem Pi (R : AJ C σ ι s a w) {fn : Func} {rs : List RV} {r : AV} (h1 : Cx P C.n fn.results.toList = some rs) (h2 : s.result rs = some r) : ∃ v, (results fn a.tmps).run P w = .ok v w ∧ AK σ noS noH v r := by
 unfold AS.result at h2
 split at h2
 ·rename_i vs e1
  obtain ⟨xs, k1, k2⟩ := FO R h1 e1
  obtain ⟨v, v1, v2⟩ := Gr (fn := fn) (tmps := a.tmps) k1 k2
  exact ⟨v, v1, R.outV v2 h2⟩
 ·cases h2
end
def AS.start (xs : List AV) : AS := ⟨fun i => (xs[i]?).getD (.tup []), noS⟩
def A6 (rs : List RV) (r : AV) (e : AX) (s : AS) : Prop := (match e with | .normal => True | .ret => True | _ => False) ∧ s.result rs = some r
theorem G7 {P : Program} {f : FuncId} {fn : Func} {mu : List Nat} {c : Code} {x : IR} {rs : List RV} {xs : List AV} {r : AV} (hf : P.funcs[f]? = some fn) (hb : fn.body = some c) (hx : At P fn.ntmps mu c = some x) (hr : Cx P fn.ntmps fn.results.toList = some rs) (hn : xs.length ≤ fn.ntmps)
  (h : ∀ C : Ctx, C.n = fn.ntmps → C.Top → IWP P C mu x (A6 rs r) (AS.start xs)) : A0 P f xs r := by
 intro σ w vs hglob hfit hvs
 have hl := hvs.len
 let C : Ctx := ⟨fn.ntmps, w.heap.size, fun _ => False, σ, w, noS, noH, fun i b h => by simp [noS] at h, hglob, [], none, false⟩
 refine callsIn_wide.1 (callsIn_of_wp_marks (n := 0) hf hb trivial ?_)
 have R : AJ C σ noH (AS.start xs) { tmps := vs.toArray ++ Array.replicate (fn.ntmps - vs.toArray.size) undef, defers := [] } w := by
  refine ⟨by simp [C]; omega, fun i hi => ?_, EU, hfit, fun id b h => by simp [AS.start, noS] at h, fun id id' b b' g h => by simp [AS.start, noS] at h, fun id b g h => by simp [AS.start, noS] at h, fun _ _ h => h, fun _ _ _ => rfl, ⟨rfl, rfl, rfl⟩, ⟨Nat.le_refl _, Nat.le_refl _⟩, fun _ _ _ => rfl, Upd.refl _ _⟩
  show AK σ noS noH _ ((xs[i]?).getD (.tup []))
  rw [Array.getD_eq_getD_getElem?]
  by_cases hlt : i < vs.length
  ·rw [Array.getElem?_append_left (by simpa using hlt)]
   obtain ⟨b, hb1, hb2⟩ := hvs.get' (List.getElem?_eq_getElem hlt)
   rw [hb1]
   simpa [hlt] using hb2
  ·rw [Array.getElem?_append_right (by simp; omega), List.getElem?_eq_none (by omega)]
   have hi' : i < fn.ntmps := hi
   rw [Array.getElem?_replicate, if_pos (by simp; omega)]
   exact .tup (fun _ => undef) rfl (by simp) (by simp)
 refine wpIn_mono (h C rfl ⟨rfl, rfl⟩ c hx _ w ⟨σ, noH, R⟩) fun e a' w' he => ?_
 have fin : ∀ s, s.result rs = some r → As C s a' w' → LeavesInM Fence.wide 0 P fn a'.tmps (fun e w' => ∃ v σ', e = .returned v ∧ AK σ' noS noH v r ∧ Fit σ' w' ∧ Ext w.heap.size σ σ' ∧ Below w.heap.size w w') a'.defers .returning w' := fun s hs hH => by
  obtain ⟨σ', ι', R1⟩ := hH
  refine R1.leaves (fun h => by cases h) fun a2 w2 R' hd ht => ?_
  obtain ⟨v, v1, v2⟩ := Pi R' (fn := fn) hr hs
  exact ⟨v, v1, v, σ', rfl, v2, R'.fit, ⟨R'.ext, fun p hp => R'.old p hp (fun h => h)⟩, ⟨R'.os.1, R'.os.2.1, R'.os.2.2, R'.grown.2, fun k hk => R'.same k hk (fun h => h)⟩⟩
 cases e with
 | normal => obtain ⟨s, h1, h2⟩ := he; exact fin s h1.2 h2
 | ret => obtain ⟨s, h1, h2⟩ := he; exact fin s h1.2 h2
 | exit id => obtain ⟨s, h1, h2⟩ := he; exact h1.1.elim
 | panic ch => obtain ⟨s, v, h1, h2⟩ := he; exact h1.1.1.elim
 | _ => exact he.elim
theorem NI {P : Program} {f : FuncId} {fn : Func} {mu : List Nat} {c : Code} {x : IR} {rs : List RV} {xs : List AV} {r : AV} (hf : P.funcs[f]? = some fn) (hb : fn.body = some c) (hx : At P fn.ntmps mu c = some x) (hr : Cx P fn.ntmps fn.results.toList = some rs) (hn : xs.length ≤ fn.ntmps)
  (h : ∀ C : Ctx, C.n = fn.ntmps → IWP P C mu x (A6 rs r) (AS.start xs)) : A0 P f xs r := G7 hf hb hx hr hn fun C h1 _ => h C h1
def H3 (C : Ctx) (rs : List RV) (r : AV) (S' : AA) (e : AX) (s : AS) : Prop := (match e with | .normal => True | .ret => True | _ => False) ∧ ∃ s2 s3 r0, AZ C s s2 ∧ (AO s2 rs).map Av = some r0 ∧ (∀ σ ι a w, AJ C σ ι s2 a w → ∃ σ' ι', AJ C σ' ι' s3 a w ∧ ∀ v, AK σ s2.S ι v r0 → AK σ' s3.S ι' v r) ∧ s3.S = S' ∧ Aa S'
def AS.startS (xs : List AV) (S : AA) : AS := ⟨fun i => (xs[i]?).getD (.tup []), S⟩
theorem Km {P : Program} {f : FuncId} {fn : Func} {mu : List Nat} {c : Code} {x : IR} {rs : List RV} {xs : List AV} {S : AA} {r : AV} {S' : AA} (hf : P.funcs[f]? = some fn) (hb : fn.body = some c) (hx : At P fn.ntmps mu c = some x) (hr : Cx P fn.ntmps fn.results.toList = some rs) (hn : xs.length ≤ fn.ntmps)
  (h : Aa S → ∀ C : Ctx, C.n = fn.ntmps → C.Top → IWP P C mu x (H3 C rs r S') (AS.startS xs S)) : BR P f xs S r S' := by
 intro hclean σ w vs ι hglob hfit hown hvs
 have hl := hvs.len
 let C : Ctx := ⟨fn.ntmps, w.heap.size, fun g => ¬ Bf S ι g, σ, w, S, ι, hclean, hglob, [], none, false⟩
 refine callsIn_wide.1 (callsIn_of_wp_marks (n := 0) hf hb trivial ?_)
 have R : AJ C σ ι (AS.startS xs S) { tmps := vs.toArray ++ Array.replicate (fn.ntmps - vs.toArray.size) undef, defers := [] } w := by
  refine ⟨by simp [C]; omega, fun i hi => ?_, EU, hfit, hown.1, hown.2, fun id b g h hg => .inr (fun hno => hno id b h hg), fun _ _ h => h, fun _ _ _ => rfl, ⟨rfl, rfl, rfl⟩, ⟨Nat.le_refl _, Nat.le_refl _⟩, fun _ _ _ => rfl, Upd.refl _ _⟩
  show AK σ S ι _ ((xs[i]?).getD (.tup []))
  rw [Array.getD_eq_getD_getElem?]
  by_cases hlt : i < vs.length
  ·rw [Array.getElem?_append_left (by simpa using hlt)]
   obtain ⟨b, hb1, hb2⟩ := hvs.get' (List.getElem?_eq_getElem hlt)
   rw [hb1]
   simpa [hlt] using hb2
  ·rw [Array.getElem?_append_right (by simp; omega), List.getElem?_eq_none (by omega)]
   have hi' : i < fn.ntmps := hi
   rw [Array.getElem?_replicate, if_pos (by simp; omega)]
   exact .tup (fun _ => undef) rfl (by simp) (by simp)
 refine wpIn_mono (h hclean C rfl ⟨rfl, rfl⟩ c hx _ w ⟨σ, ι, R⟩) fun e a' w' he => ?_
 have fin : ∀ s, (∃ s2 s3 r0, AZ C s s2 ∧ (AO s2 rs).map Av = some r0 ∧ (∀ σ ι a w, AJ C σ ι s2 a w → ∃ σ' ι', AJ C σ' ι' s3 a w ∧ ∀ v, AK σ s2.S ι v r0 → AK σ' s3.S ι' v r) ∧ s3.S = S' ∧ Aa S') → As C s a' w' → LeavesInM Fence.wide 0 P fn a'.tmps (fun e w' => ∃ v σ' ι', e = .returned v ∧ Aa S' ∧ Upd S ι S' ι' ∧ DO σ' S' ι' w' ∧ AK σ' S' ι' v r ∧ Fit σ' w' ∧ (∀ p x, σ p = some x → σ' p = some x) ∧
   (∀ p : Addr, p.block < w.heap.size → Bf S ι p.block → σ' p = σ p) ∧ (w'.os = w.os ∧ w'.tape = w.tape ∧ w'.output = w.output) ∧ w.heap.size ≤ w'.heap.size ∧
   (∀ g, g < w.heap.size → Bf S ι g → w'.heap[g]? = w.heap[g]?) ∧ (∀ id b g, S' id = some b → (ι' id).g = some g → w.heap.size ≤ g ∨ ¬ Bf S ι g)) a'.defers .returning w' := fun s ⟨s2, s3, r0, hg, hres, hlow, hS, hc⟩ hH => by
  obtain ⟨σ1, ι1, R1⟩ := hg _ _ hH
  refine R1.leaves (fun h => by cases h) fun a2 w2 R2 hd ht => ?_
  subst hS
  rw [Option.map_eq_some_iff] at hres
  obtain ⟨vs2, e1, rfl⟩ := hres
  obtain ⟨xs2, k1, k2⟩ := FO R2 hr e1
  obtain ⟨v, v1, v20⟩ := Gr (fn := fn) (tmps := a2.tmps) k1 k2
  obtain ⟨σ', ι', R', hv'⟩ := hlow _ _ _ _ R2
  have v2 := hv' v v20
  exact ⟨v, v1, v, σ', ι', rfl, hc, R'.upd, ⟨R'.blk, R'.inj⟩, v2, R'.fit, R'.ext, fun p h1 h2 => R'.old p h1 (fun h => h h2), R'.os, R'.grown.2, fun g h1 h2 => R'.same g h1 (fun h => h h2), fun id b g h1 h2 => R'.base id b g h1 h2⟩
 cases e with
 | normal => obtain ⟨s, h1, h2⟩ := he; exact fin s h1.2 h2
 | ret => obtain ⟨s, h1, h2⟩ := he; exact fin s h1.2 h2
 | exit id => obtain ⟨s, h1, h2⟩ := he; exact h1.1.elim
 | panic ch => obtain ⟨s, v, h1, h2⟩ := he; exact h1.1.1.elim
 | _ => exact he.elim
theorem LG {P : Program} {f : FuncId} {fn : Func} {mu : List Nat} {c : Code} {x : IR} {rs : List RV} {xs : List AV} {S : AA} {r : AV} {S' : AA} (hf : P.funcs[f]? = some fn) (hb : fn.body = some c) (hx : At P fn.ntmps mu c = some x) (hr : Cx P fn.ntmps fn.results.toList = some rs) (hn : xs.length ≤ fn.ntmps)
  (h : Aa S → ∀ C : Ctx, C.n = fn.ntmps → IWP P C mu x (H3 C rs r S') (AS.startS xs S)) : BR P f xs S r S' := Km hf hb hx hr hn fun h0 C h1 _ => h h0 C h1
def PF (C : Ctx) (rs : List RV) (Post : AV → AA → Prop) (e : AX) (s : AS) : Prop := ∃ r S', Post r S' ∧ H3 C rs r S' e s
theorem M7 {P : Program} {fn : Func} {C : Ctx} {rs : List RV} {Post : AV → AA → Prop} {e : AX} {s : AS} {a' : Act} {w' : World} {S : AA} {ι : Ac} (hC : C.N = C.w0.heap.size) (hG : ∀ g, C.G g ↔ ¬ Bf S ι g) (hS0 : C.S0 = S) (hι0 : C.ι0 = ι) (hds : C.ds = []) (hr : Cx P C.n fn.results.toList = some rs) (h : PF C rs Post e s) (hH : As C s a' w') :
  LeavesInM Fence.wide 0 P fn a'.tmps (JT C.σ0 S ι C.w0 Post) a'.defers .returning w' := by
 obtain ⟨r, S', hP, _, s2, s3, r0, hg, hres, hlow, hS, hc⟩ := h
 obtain ⟨σ1, ι1, R1⟩ := hg _ _ hH
 refine R1.leaves (fun h => by cases h) fun a2 w2 R2 hd ht => ?_
 subst hS
 rw [Option.map_eq_some_iff] at hres
 obtain ⟨vs2, e1, rfl⟩ := hres
 obtain ⟨xs2, k1, k2⟩ := FO R2 hr e1
 obtain ⟨v, v1, v20⟩ := Gr (fn := fn) (tmps := a2.tmps) k1 k2
 obtain ⟨σ', ι', R', hv'⟩ := hlow _ _ _ _ R2
 have v2 := hv' v v20
 rw [hds]
 have hupd := R'.upd
 rw [hS0, hι0] at hupd
 exact ⟨v, v1, v, r, s3.S, σ', ι', rfl, hP, hc, hupd, ⟨R'.blk, R'.inj⟩, v2, R'.fit, R'.ext, fun p h1 h2 => R'.old p (by rw [hC]; exact h1) (fun h => (hG _).1 h h2), R'.os, R'.grown.2, fun g h1 h2 => R'.same g (by rw [hC]; exact h1) (fun h => (hG _).1 h h2), fun id b g h1 h2 => (R'.base id b g h1 h2).imp (fun h => by rw [← hC]; exact h) fun h => (hG _).1 h⟩
theorem Ly {P : Program} {f : FuncId} {fn : Func} {mu : List Nat} {c : Code} {x : IR} {rs : List RV} {xs : List AV} {S : AA} {Post : AV → AA → Prop} (hf : P.funcs[f]? = some fn) (hb : fn.body = some c) (hx : At P fn.ntmps mu c = some x) (hr : Cx P fn.ntmps fn.results.toList = some rs) (hn : xs.length ≤ fn.ntmps)
  (h : Aa S → ∀ C : Ctx, C.n = fn.ntmps → C.Top → IWP P C mu x (PF C rs Post) (AS.startS xs S)) : EV P f xs S Post := by
 intro hclean σ w vs ι hglob hfit hown hvs
 have hl := hvs.len
 let C : Ctx := ⟨fn.ntmps, w.heap.size, fun g => ¬ Bf S ι g, σ, w, S, ι, hclean, hglob, [], none, false⟩
 refine callsIn_wide.1 (callsIn_of_wp_marks (n := 0) hf hb trivial ?_)
 have R : AJ C σ ι (AS.startS xs S) { tmps := vs.toArray ++ Array.replicate (fn.ntmps - vs.toArray.size) undef, defers := [] } w := by
  refine ⟨by simp [C]; omega, fun i hi => ?_, EU, hfit, hown.1, hown.2, fun id b g h hg => .inr (fun hno => hno id b h hg), fun _ _ h => h, fun _ _ _ => rfl, ⟨rfl, rfl, rfl⟩, ⟨Nat.le_refl _, Nat.le_refl _⟩, fun _ _ _ => rfl, Upd.refl _ _⟩
  show AK σ S ι _ ((xs[i]?).getD (.tup []))
  rw [Array.getD_eq_getD_getElem?]
  by_cases hlt : i < vs.length
  ·rw [Array.getElem?_append_left (by simpa using hlt)]
   obtain ⟨b, hb1, hb2⟩ := hvs.get' (List.getElem?_eq_getElem hlt)
   rw [hb1]
   simpa [hlt] using hb2
  ·rw [Array.getElem?_append_right (by simp; omega), List.getElem?_eq_none (by omega)]
   have hi' : i < fn.ntmps := hi
   rw [Array.getElem?_replicate, if_pos (by simp; omega)]
   exact .tup (fun _ => undef) rfl (by simp) (by simp)
 refine wpIn_mono (h hclean C rfl ⟨rfl, rfl⟩ c hx _ w ⟨σ, ι, R⟩) fun e a' w' he => ?_
 have fin : ∀ e s, PF C rs Post e s → As C s a' w' → LeavesInM Fence.wide 0 P fn a'.tmps (JT σ S ι w Post) a'.defers .returning w' := fun e s h1 h2 => M7 (C := C) rfl (fun g => Iff.rfl) rfl rfl rfl hr h1 h2
 cases e with
 | normal => obtain ⟨s, h1, h2⟩ := he; exact fin _ s h1 h2
 | ret => obtain ⟨s, h1, h2⟩ := he; exact fin _ s h1 h2
 | exit id => obtain ⟨s, ⟨r, S', hP, h1⟩, h2⟩ := he; exact h1.1.elim
 | panic ch => obtain ⟨s, v, ⟨⟨r, S', hP, h1⟩, _⟩, h2⟩ := he; exact h1.1.elim
 | _ => exact he.elim
structure OkF (P : Program) (f n : Nat) (mu : List Nat) (x : IR) (rs : List RV) : Prop where
 ok : ∃ fn c, P.funcs[f]? = some fn ∧ fn.body = some c ∧ fn.ntmps = n ∧ At P n mu c = some x ∧ Cx P n fn.results.toList = some rs
section
variable {P : Program} {f n : Nat} {mu : List Nat} {x : IR} {rs : List RV}
theorem OkF.of {fn : Func} (hf : P.funcs[f]? = some fn) (hb : fn.body.isSome = true) (hn : fn.ntmps = n) (hx : At P n mu (fn.body.getD .skip) = some x) (hr : Cx P n fn.results.toList = some rs) : OkF P f n mu x rs := by
 obtain ⟨c, hc⟩ := Option.isSome_iff_exists.1 hb
 rw [hc] at hx
 exact ⟨fn, c, hf, hc, hn, hx, hr⟩
theorem OkF.ac (o : OkF P f n mu x rs) {xs : List AV} {r : AV} (h : ∀ C : Ctx, C.n = n → IWP P C mu x (A6 rs r) (AS.start xs)) (hn : xs.length ≤ n := by exact Nat.le_of_ble_eq_true rfl) : A0 P f xs r := by
 obtain ⟨fn, c, hf, hb, rfl, hx, hr⟩ := o.ok
 exact NI hf hb hx hr hn h
theorem OkF.acT (o : OkF P f n mu x rs) {xs : List AV} {r : AV} (h : ∀ C : Ctx, C.n = n → C.Top → IWP P C mu x (A6 rs r) (AS.start xs)) (hn : xs.length ≤ n := by exact Nat.le_of_ble_eq_true rfl) : A0 P f xs r := by
 obtain ⟨fn, c, hf, hb, rfl, hx, hr⟩ := o.ok
 exact G7 hf hb hx hr hn h
theorem OkF.acR (o : OkF P f n mu x rs) {xs : List AV} {S : AA} {Post : AV → AA → Prop} (h : Aa S → ∀ C : Ctx, C.n = n → C.Top → IWP P C mu x (PF C rs Post) (AS.startS xs S)) (hn : xs.length ≤ n := by exact Nat.le_of_ble_eq_true rfl) : EV P f xs S Post := by
 obtain ⟨fn, c, hf, hb, rfl, hx, hr⟩ := o.ok
 exact Ly hf hb hx hr hn h
theorem OkF.acS (o : OkF P f n mu x rs) {xs : List AV} {S S' : AA} {r : AV} (h : Aa S → ∀ C : Ctx, C.n = n → IWP P C mu x (H3 C rs r S') (AS.startS xs S)) (hn : xs.length ≤ n := by exact Nat.le_of_ble_eq_true rfl) : BR P f xs S r S' := by
 obtain ⟨fn, c, hf, hb, rfl, hx, hr⟩ := o.ok
 exact LG hf hb hx hr hn h
end

set_option linter.unusedSimpArgs false
mutual
def AC.clear (ds : List Nat) : AC → Bool
 | .row id _ => !ds.contains id
 | .part id _ _ => !ds.contains id
 | .rest id _ _ => !ds.contains id
 | .ptr id _ _ _ => !ds.contains id
 | .mptr id => !ds.contains id
 | .yld id => !ds.contains id
 | .ubool => true
 | .fn _ caps => AC.clears ds caps
 | .st _ => true
 | .full _ => true
 | .eptr _ => true
 | .any => true
def AC.clears (ds : List Nat) : List AC → Bool
 | [] => true
 | c :: cs => c.clear ds && AC.clears ds cs
end
theorem HM {ds : List Nat} : ∀ {l : List AC}, AC.clears ds l = true → ∀ a ∈ l, a.clear ds = true
 | [], _, a, ha => by simp at ha
 | x :: xs, hx, a, ha => by
  rw [AC.clears, Bool.and_eq_true] at hx
  rcases List.mem_cons.1 ha with rfl | ha
  ·exact hx.1
  ·exact HM hx.2 a ha
def AC.purge (ds : List Nat) : AC → AC
 | .row id n => if ds.contains id then .any else .row id n
 | .part id k n => if ds.contains id then .any else .part id k n
 | .rest id k n => if ds.contains id then .any else .rest id k n
 | .ptr id n k off => if ds.contains id then .any else .ptr id n k off
 | .mptr id => if ds.contains id then .any else .mptr id
 | .yld id => if ds.contains id then .any else .yld id
 | .fn f caps => if AC.clears ds caps then .fn f caps else .any
 | c => c
mutual
def AV.purge (ds : List Nat) : AV → AV
 | .one c => .one (c.purge ds)
 | .agg cs => .agg (cs.map (AC.purge ds))
 | .tup vs => .tup (AV.purges ds vs)
 | .any => .any
def AV.purges (ds : List Nat) : List AV → List AV
 | [] => []
 | v :: vs => v.purge ds :: AV.purges ds vs
end
def AG.purge (ds : List Nat) : AG → AG
 | .box e cs => .box e (cs.map (AC.purge ds))
 | .crow e cs => .crow e (cs.map (AC.purge ds))
 | .iter x n seen => .iter (x.purge ds) n seen
 | .loop env r => .loop (AV.purges ds env) r
 | b => b
def Ag (ds : List Nat) (S : AA) : AA := fun id => if ds.contains id then none else (S id).map (AG.purge ds)
def AS.drop (ds : List Nat) (s : AS) : AS := ⟨fun i => (s.env i).purge ds, Ag ds s.S⟩
theorem CL {ds : List Nat} (hds : ∀ d ∈ ds, d < 1000) {id : Nat} (h : 1000 ≤ id) : ds.contains id = false := by
 cases hc : ds.contains id with
 | false => rfl
 | true =>
  have := hds id (List.contains_iff_mem.1 hc)
  omega
mutual
theorem AC.clear_high {ds : List Nat} (hds : ∀ d ∈ ds, d < 1000) : ∀ {c : AC}, c.high = true → c.clear ds = true
 | .st _, _ => rfl
 | .full _, _ => rfl
 | .row id n, h => by
  rw [AC.high] at h
  rw [AC.clear, CL hds (of_decide_eq_true h)]
  rfl
 | .part id k n, h => by
  rw [AC.high] at h
  rw [AC.clear, CL hds (of_decide_eq_true h)]
  rfl
 | .rest id k n, h => by
  rw [AC.high] at h
  rw [AC.clear, CL hds (of_decide_eq_true h)]
  rfl
 | .ptr id n k off, h => by
  rw [AC.high] at h
  rw [AC.clear, CL hds (of_decide_eq_true h)]
  rfl
 | .mptr id, h => by
  rw [AC.high] at h
  rw [AC.clear, CL hds (of_decide_eq_true h)]
  rfl
 | .yld id, h => by
  rw [AC.high] at h
  rw [AC.clear, CL hds (of_decide_eq_true h)]
  rfl
 | .ubool, _ => rfl
 | .eptr _, _ => rfl
 | .fn f caps, h => by
  rw [AC.high] at h
  rw [AC.clear]
  exact AC.clears_highs hds h
 | .any, _ => rfl
theorem AC.clears_highs {ds : List Nat} (hds : ∀ d ∈ ds, d < 1000) : ∀ {cs : List AC}, AC.highs cs = true → AC.clears ds cs = true
 | [], _ => rfl
 | c :: cs, h => by
  rw [AC.highs, Bool.and_eq_true] at h
  rw [AC.clears, AC.clear_high hds h.1, AC.clears_highs hds h.2]
  rfl
end
theorem AC.purge_high {ds : List Nat} (hds : ∀ d ∈ ds, d < 1000) : ∀ {c : AC}, c.high = true → c.purge ds = c
 | .st _, _ => rfl
 | .full _, _ => rfl
 | .row id n, h => by
  rw [AC.high] at h
  simp only [AC.purge, CL hds (of_decide_eq_true h), Bool.false_eq_true, if_false]
 | .part id k n, h => by
  rw [AC.high] at h
  simp only [AC.purge, CL hds (of_decide_eq_true h), Bool.false_eq_true, if_false]
 | .rest id k n, h => by
  rw [AC.high] at h
  simp only [AC.purge, CL hds (of_decide_eq_true h), Bool.false_eq_true, if_false]
 | .ptr id n k off, h => by
  rw [AC.high] at h
  simp only [AC.purge, CL hds (of_decide_eq_true h), Bool.false_eq_true, if_false]
 | .mptr id, h => by
  rw [AC.high] at h
  simp only [AC.purge, CL hds (of_decide_eq_true h), Bool.false_eq_true, if_false]
 | .yld id, h => by
  rw [AC.high] at h
  simp only [AC.purge, CL hds (of_decide_eq_true h), Bool.false_eq_true, if_false]
 | .ubool, _ => rfl
 | .eptr _, _ => rfl
 | .fn f caps, h => by
  rw [AC.high] at h
  simp only [AC.purge, AC.clears_highs hds h, if_true]
 | .any, _ => rfl
mutual
theorem AV.purge_high {ds : List Nat} (hds : ∀ d ∈ ds, d < 1000) : ∀ {c : AV}, c.high = true → c.purge ds = c
 | .one c, h => by rw [AV.high] at h; rw [AV.purge, AC.purge_high hds h]
 | .agg cs, h => by
  rw [AV.high] at h
  rw [AV.purge]
  congr 1
  exact (List.map_congr_left fun a ha => AC.purge_high hds (BN h a ha)).trans (List.map_id _)
 | .tup vs, h => by rw [AV.high] at h; rw [AV.purge, AV.purges_high hds h]
 | .any, _ => rfl
theorem AV.purges_high {ds : List Nat} (hds : ∀ d ∈ ds, d < 1000) : ∀ {c : List AV}, AV.highs c = true → AV.purges ds c = c
 | [], _ => rfl
 | c :: cs, h => by
  rw [AV.highs, Bool.and_eq_true] at h
  rw [AV.purges, AV.purge_high hds h.1, AV.purges_high hds h.2]
end
theorem AG.purge_high {ds : List Nat} (hds : ∀ d ∈ ds, d < 1000) {b : AG} (h : b.high = true) : b.purge ds = b := by
 cases b with
 | box e cs =>
  rw [AG.high] at h
  simp only [AG.purge]
  congr 1
  exact (List.map_congr_left fun a ha => AC.purge_high hds (BN h a ha)).trans (List.map_id _)
 | crow e cs =>
  rw [AG.high] at h
  simp only [AG.purge]
  congr 1
  exact (List.map_congr_left fun a ha => AC.purge_high hds (BN h a ha)).trans (List.map_id _)
 | arow => rfl
 | mrow => rfl
 | map => rfl
 | memo => rfl
 | iter x =>
  rw [AG.high] at h
  simp only [AG.purge, AC.purge_high hds h]
 | loop env r =>
  rw [AG.high] at h
  simp only [AG.purge, AV.purges_high hds h]
 | dead => rfl
section
variable {C : Ctx} {σ : Sto} {ι : Ac} {s : AS} {a : Act} {w : World} {ds : List Nat}
theorem A1 (b : AG) : (b.purge ds).len = b.len := by cases b <;> first | rfl | simp [AG.purge, AG.len]
theorem Ek (b : AG) : (b.purge ds).wid = b.wid := by cases b <;> rfl
theorem AW.keepClear {ds : List Nat} {S S2 : AA} (hS : ∀ id b, ds.contains id = false → S id = some b → ∃ b', S2 id = some b' ∧ b'.len = b.len ∧ b'.wid = b.wid) {v : Value} {c : AC} (h : AW σ S ι v c) (hc : c.clear ds = true) : AW σ S2 ι v c := by
 induction h with
 | st h => exact .st h
 | full h => exact .full h
 | row h1 h2 h3 h4 =>
  rw [AC.clear] at hc
  obtain ⟨b', q1, q2, q3⟩ := hS _ _ (by simpa using hc) h1
  exact .row q1 (by rw [q2]; exact h2) h3 (by rw [q2]; exact h4)
 | part h1 h2 h3 h4 =>
  rw [AC.clear] at hc
  obtain ⟨b', q1, q2, q3⟩ := hS _ _ (by simpa using hc) h1
  exact .part q1 (by rw [q2]; exact h2) h3 (by rw [q2]; exact h4)
 | rest h1 h2 h3 h4 =>
  rw [AC.clear] at hc
  obtain ⟨b', q1, q2, q3⟩ := hS _ _ (by simpa using hc) h1
  exact .rest q1 (by rw [q2]; exact h2) h3 (by rw [q2, q3]; exact h4)
 | ptr h1 h2 h3 h4 =>
  rw [AC.clear] at hc
  obtain ⟨b', q1, q2, q3⟩ := hS _ _ (by simpa using hc) h1
  exact .ptr q1 (by rw [q2]; exact h2) h3 (by rw [q2, q3]; exact h4)
 | mptr h1 h2 h3 h4 =>
  rw [AC.clear] at hc
  obtain ⟨b', q1, q2, q3⟩ := hS _ _ (by simpa using hc) h1
  exact .mptr q1 (by rw [q2]; exact h2) h3 (by rw [q2]; exact h4)
 | yld h1 h2 h3 h4 =>
  rw [AC.clear] at hc
  obtain ⟨b', q1, q2, q3⟩ := hS _ _ (by simpa using hc) h1
  exact .yld q1 (by rw [q2]; exact h2) h3 (by rw [q2]; exact h4)
 | ubool => exact .ubool
 | eptr c h1 h2 hh => exact .eptr c h1 h2 hh
 | fn c h1 h2 h3 ih =>
  rw [AC.clear] at hc
  exact .fn c h1 h2 (fun j a ha => ih j a ha (HM hc a (List.mem_of_getElem? ha)))
 | any h => exact .any h
theorem AW.purge (hds : ∀ d ∈ ds, d < 1000) {v : Value} {c : AC} (h : AW σ s.S ι v c) : AW σ (s.drop ds).S ι v (c.purge ds) := by
 have h0 := h
 cases h with
 | st h => exact .st h
 | full h => exact .full h
 | @row _ id n b h1 h2 h3 h4 =>
  simp only [AC.purge]
  split
  ·exact .any h3
  ·rename_i hn
   exact .row (b := b.purge ds) (by simp only [AS.drop, Ag, hn]; rw [h1]; rfl) (by rw [A1]; exact h2) h3 (by rw [A1]; exact h4)
 | @part _ id k n b h1 h2 h3 h4 =>
  simp only [AC.purge]
  split
  ·exact .any h3
  ·rename_i hn
   exact .part (b := b.purge ds) (by simp only [AS.drop, Ag, hn]; rw [h1]; rfl) (by rw [A1]; exact h2) h3 (by rw [A1]; exact h4)
 | @rest _ id k n b h1 h2 h3 h4 =>
  simp only [AC.purge]
  split
  ·exact .any h3
  ·rename_i hn
   exact .rest (b := b.purge ds) (by simp only [AS.drop, Ag, hn]; rw [h1]; rfl) (by rw [A1]; exact h2) h3 (by rw [A1, Ek]; exact h4)
 | @ptr _ id n k off b h1 h2 h3 h4 =>
  simp only [AC.purge]
  split
  ·exact .any h3
  ·rename_i hn
   exact .ptr (b := b.purge ds) (by simp only [AS.drop, Ag, hn]; rw [h1]; rfl) (by rw [A1]; exact h2) h3 (by rw [A1, Ek]; exact h4)
 | @mptr _ id b h1 h2 h3 h4 =>
  simp only [AC.purge]
  split
  ·exact .any h3
  ·rename_i hn
   exact .mptr (b := b.purge ds) (by simp only [AS.drop, Ag, hn]; rw [h1]; rfl) (by rw [A1]; exact h2) h3 (by rw [A1]; exact h4)
 | @yld _ id b h1 h2 h3 h4 =>
  simp only [AC.purge]
  split
  ·exact .any h3
  ·rename_i hn
   exact .yld (b := b.purge ds) (by simp only [AS.drop, Ag, hn]; rw [h1]; rfl) (by rw [A1]; exact h2) h3 (by rw [A1]; exact h4)
 | ubool => exact .ubool
 | eptr c h1 h2 hh => exact .eptr c h1 h2 hh
 | @fn f vs caps c h1 h2 h3 =>
  simp only [AC.purge]
  split
  ·rename_i hh
   exact h0.keepClear (ds := ds) (fun id b hid hb => ⟨b.purge ds, by
    show Ag ds s.S id = _
    unfold Ag
    rw [hid, hb]
    rfl, A1 b, Ek b⟩) (by rw [AC.clear]; exact hh)
  ·exact .any rfl
 | any h => exact .any h
mutual
theorem AK.purge (hds : ∀ d ∈ ds, d < 1000) : ∀ {v : Value} {c : AV}, AK σ s.S ι v c → AK σ (s.drop ds).S ι v (c.purge ds)
 | v, .one c, h => by cases h with | one h => exact .one (h.purge hds)
 | v, .agg cs, h => by cases h with | agg h => exact .agg ((h.mono fun _ _ x => x.purge hds).map_right)
 | v, .tup vs, h => by
  cases h with
  | tup c h1 h2 h3 =>
   obtain ⟨k1, k2⟩ := AK.purges hds (c := c) h3
   exact .tup c (by rw [h1, k1]) (fun j b hb => by
    rcases Nat.lt_or_ge j vs.length with hj | hj
    ·exact h2 j _ (List.getElem?_eq_getElem hj)
    ·rw [List.getElem?_eq_none (by omega)] at hb; cases hb) k2
 | v, .any, h => .any
theorem AK.purges (hds : ∀ d ∈ ds, d < 1000) : ∀ {vs : List AV} {c : Nat → Value}, (∀ j b, vs[j]? = some b → AK σ s.S ι (c j) b) → vs.length = (AV.purges ds vs).length ∧ ∀ j b, (AV.purges ds vs)[j]? = some b → AK σ (s.drop ds).S ι (c j) b
 | [], c, h => by simp [AV.purges]
 | x :: xs, c, h => by
  obtain ⟨m1, m2⟩ := AK.purges hds (vs := xs) (c := fun j => c (j + 1)) (fun j b hb => h (j + 1) b (by simpa using hb))
  refine ⟨by simp [AV.purges, ← m1], fun j b hb => ?_⟩
  cases j with
  | zero =>
   simp [AV.purges] at hb
   subst hb
   exact AK.purge hds (h 0 x rfl)
  | succ j => exact m2 j b (by simpa [AV.purges] using hb)
end
theorem BH.purge (hds : ∀ d ∈ ds, d < 1000) {h : Hnd} {b : AG} (hr : BH σ s.S ι w h b) : BH σ (s.drop ds).S ι w h (b.purge ds) := by
 cases hr with
 | box h1 h2 h3 h4 h5 => exact .box h1 h2 h3 ((h4.mono fun _ _ x => x.purge hds).map_right) h5
 | crow h1 h2 h3 hc hm h4 h5 => exact .crow h1 h2 h3 (by simpa using hc) hm (by rw [List.length_map]; exact (h4.mono fun _ _ x => x.purge hds).map_right) h5
 | afull h1 h2 h3 h4 => exact .afull h1 h2 h3 h4
 | arow h1 h2 h3 h4 h5 h6 h7 h8 h9 hh => exact .arow h1 h2 h3 h4 h5 h6 h7 h8 h9 hh
 | mnil h1 h2 => exact .mnil h1 h2
 | mrow h1 h2 h3 h4 h5 h6 h7 h8 h9 => exact .mrow h1 h2 h3 h4 h5 h6 h7 h8 h9
 | map h1 h2 h3 h4 => exact .map h1 h2 h3 h4
 | memo h1 h2 h3 h4 => exact .memo h1 h2 h3 h4
 | iter h1 h2 h3 h4 => exact .iter h1 h2 (h3.purge hds) h4
 | loop h1 h2 h3 h4 h5 =>
  obtain ⟨k1, k2⟩ := AK.purges hds h4
  exact .loop h1 h2 (by rw [← k1]; exact h3) k2 h5
 | dead h1 => exact .dead h1
theorem Eh {id : Nat} {b : AG} (h : (s.drop ds).S id = some b) : ∃ b', s.S id = some b' ∧ b = b'.purge ds := by
 simp only [AS.drop, Ag] at h
 split at h
 ·cases h
 ·rw [Option.map_eq_some_iff] at h
  obtain ⟨b', h1, h2⟩ := h
  exact ⟨b', h1, h2.symm⟩
theorem AZ.drop (ds : List Nat) (s : AS) (hds : ∀ d ∈ ds, d < 1000) : AZ C s (s.drop ds) := fun a w ⟨σ, ι, R⟩ => by
 refine ⟨σ, ι, R.size, fun i hi => (R.env i hi).purge hds, R.nod, R.fit, fun id b h => ?_, fun id id' b b' g h1 h2 g1 g2 => ?_, fun id b g h hg => ?_, R.ext, R.old, R.os, R.grown, R.same, fun id b hb => ?_⟩
 ·obtain ⟨b', h1, rfl⟩ := Eh h
  exact (R.blk id b' h1).purge hds
 ·obtain ⟨c1, k1, _⟩ := Eh h1
  obtain ⟨c2, k2, _⟩ := Eh h2
  exact R.inj _ _ _ _ _ k1 k2 g1 g2
 ·obtain ⟨c1, k1, _⟩ := Eh h
  exact R.base _ _ _ k1 hg
 ·obtain ⟨b', h1, h2, h3⟩ := R.upd id b hb
  have hid := (C.clean id b hb).1
  have hnc : ds.contains id = false := by
   cases hc : ds.contains id with
   | false => rfl
   | true =>
    have := hds id (List.contains_iff_mem.1 hc)
    omega
  refine ⟨b'.purge ds, by simp only [AS.drop, Ag, hnc]; rw [h1]; rfl, by rw [A1]; exact h2, fun hl => ?_⟩
  rw [A1] at hl
  rw [Ek]
  exact h3 hl
theorem AZ.share {id : Nat} {e : TypeId} {wd : Nat} {xs : List (List SV)} (hS : s.S id = some (.mrow e wd xs)) : AZ C s (s.set id (.arow e wd xs)) := fun a w ⟨σ, ι, R⟩ => by
 have hb := R.blk _ _ hS
 have hι : AF ι id (ι id) = ι := by
  funext k
  unfold AF
  split
  ·rename_i h; rw [h]
  ·rfl
 cases hb with
 | mnil h1 h2 =>
  obtain ⟨hu, R'⟩ := R.turn (w' := w) hS (.arow e wd []) (ι id) (σ' := σ) (fun _ _ h => h) (fun _ _ _ => rfl) R.fit (Nat.le_refl _) (fun _ => ⟨rfl, rfl⟩) ⟨rfl, rfl, rfl⟩ (Nat.le_refl _) (fun _ _ _ => rfl) (fun g h => .inl h) (fun hu => .afull h1 (by simpa using h2) (by simp) (.list (b := 0) (o := 0) (w := 0) (fun _ _ => undef) rfl (by simp) (by rw [h2]; simp [maxLen]) (fun _ => h2) (by simp) (by simp) (fun _ h _ => absurd h (by omega)) (by simp) (by simp)))
  exact ⟨σ, _, R'⟩
 | @mrow _ _ _ g vs h1 h2 h3 h4 h5 h6 h7 h8 h9 =>
  have hl : An σ vs.toList wd xs := ⟨h7, fun k x j y hx hy => by simpa using h8 k x j y hx hy⟩
  have hkeep := Ei (σ := σ) (w' := w) (g := g) (k := xs.length * wd) (fun p x e hx => by rw [h9 _ e] at hx; cases hx)
  obtain ⟨hu, R'⟩ := R.turn (w' := w) hS (.arow e wd xs) (ι id) (σ' := C4 σ w g (xs.length * wd)) hkeep (fun p hp _ => EA (fun e => hp (by rw [e]; exact h1))) (Dc R.fit) (Nat.le_refl _) (fun _ => ⟨rfl, rfl⟩) ⟨rfl, rfl, rfl⟩ (Nat.le_refl _) (fun _ _ _ => rfl) (fun g h => .inl h)
   (fun hu => by
    have := Fx (S' := (s.set id (.arow e wd xs)).S) (ι' := AF ι id (ι id)) (w' := w) (p := (ι id).p) h2 h3 h4 h5 h6 hl hkeep (fun p hp hne => absurd (h9 p hp) hne)
    rw [← h1] at this
    exact this)
  exact ⟨_, _, R'⟩
theorem AZ.own (t id : Nat) (e : TypeId) (wd : Nat) {xs : List (List SV)} (ht : s.env t = .one (.full xs)) (hid : s.S id = none) (hw : ∀ x ∈ xs, x.length = wd) (hn : t < C.n) : AZ C s ⟨AF s.env t (.one (.row id xs.length)), AF s.S id (some (.arow e wd xs))⟩ := fun a w ⟨σ, ι, R⟩ => by
 have rt := R.env t hn
 rw [ht] at rt
 generalize hv : a.tmps.getD t undef = v at rt
 cases AL rt with
 | @full p len xs hs =>
  have hl : len = xs.length := by
   obtain ⟨p', cap', e1, _⟩ := B1 hs
   cases e1
   rfl
  subst hl
  obtain ⟨hu, R'⟩ := R.fresh (w' := w) hid (.arow e wd xs) ⟨p, xs.length, none⟩ (Ext.refl _ _) R.fit (Below.refl _ _) (by simp) (fun S' ι' hu => .afull rfl rfl hw hs)
  refine ⟨σ, _, R'.size, fun i hi => ?_, R'.nod, R'.fit, R'.blk, R'.inj, R'.base, R'.ext, R'.old, R'.os, R'.grown, R'.same, R'.upd⟩
  show AK σ (s.set id (.arow e wd xs)).S _ _ (AF s.env t _ i)
  unfold AF
  split
  ·rename_i e1
   subst e1
   rw [hv]
   exact .one (.row (b := .arow e wd xs) (by simp [AS.set, AB]) (Nat.le_refl _) rfl fun _ => by simp [AF])
  ·exact R'.env i hi
theorem AZ.ownM (t id : Nat) (e : TypeId) (wd : Nat) (ht : s.env t = .one (.full [])) (hid : s.S id = none) (hn : t < C.n) : AZ C s ⟨AF s.env t (.one (.row id 0)), AF s.S id (some (.mrow e wd []))⟩ := fun a w ⟨σ, ι, R⟩ => by
 have rt := R.env t hn
 rw [ht] at rt
 generalize hv : a.tmps.getD t undef = v at rt
 cases AL rt with
 | @full p len xs hs =>
  have hl : len = 0 := by
   obtain ⟨p', cap', e1, _⟩ := B1 hs
   cases e1
   rfl
  subst hl
  obtain ⟨hu, R'⟩ := R.fresh (w' := w) hid (.mrow e wd []) ⟨p, 0, none⟩ (Ext.refl _ _) R.fit (Below.refl _ _) (by simp) (fun S' ι' hu => .mnil rfl rfl)
  refine ⟨σ, _, R'.size, fun i hi => ?_, R'.nod, R'.fit, R'.blk, R'.inj, R'.base, R'.ext, R'.old, R'.os, R'.grown, R'.same, R'.upd⟩
  show AK σ (s.set id (.mrow e wd [])).S _ _ (AF s.env t _ i)
  unfold AF
  split
  ·rename_i e1
   subst e1
   rw [hv]
   exact .one (.row (b := .mrow e wd []) (by simp [AS.set, AB]) (Nat.le_refl _) rfl fun _ => by simp [AF])
  ·exact R'.env i hi
theorem AZ.keep (t id k n : Nat) {e : TypeId} {wd : Nat} {xs : List (List SV)} (ht : s.env t = .one (.part id k n)) (hS : s.S id = some (.arow e wd xs)) (hl : n = xs.length) (hn : t < C.n) : AZ C s ⟨AF s.env t (.one (.st (.list (xs.take k)))), s.S⟩ := fun a w ⟨σ, ι, R⟩ => by
 have rt := R.env t hn
 rw [ht] at rt
 refine ⟨σ, ι, R.size, fun i hi => ?_, R.nod, R.fit, R.blk, R.inj, R.base, R.ext, R.old, R.os, R.grown, R.same, R.upd⟩
 show AK σ s.S ι _ (AF s.env t _ i)
 unfold AF
 split
 ·rename_i e1
  subst e1
  obtain ⟨b, h1, h2, h3⟩ := DZ (AL rt)
  rw [hS] at h1
  cases h1
  obtain ⟨h4, h5⟩ := h3 hl
  rw [h5]
  have hb := R.blk _ _ hS
  have hr := hb.srep
  have hmem : ∀ {kk x}, (xs.take k)[kk]? = some x → xs[kk]? = some x := fun hx => by
   rw [List.getElem?_take] at hx
   split at hx
   ·exact hx
   ·cases hx
  cases hr with
  | @list p len cap b o w' _ c q1 q2 q3 q4 q5 q6 qh q7 q8 =>
   exact .one (.st (.list (b := b) (o := o) (w := w') c (by rw [List.length_take]; omega) (by omega) q3 q4 (fun hne => q5 (by omega)) (fun x hx => q6 x (List.mem_of_mem_take hx)) (fun e1 e2 e3 => qh e1 e2 (fun e4 => e3 (by rw [e4]; exact List.take_nil))) (fun kk x j a hx ha => q7 kk x j a (hmem hx) ha) (fun kk x j a hx ha => q8 kk x j a (hmem hx) ha)))
 ·exact R.env i hi
theorem AZ.ownC (id j nid : Nat) (e : TypeId) (wd : Nat) {xs : List (List SV)} {ty : TypeId} {cs : List AC} (hb : s.S id = some (.box ty cs)) (hc : cs[j]? = some (.full xs)) (hn : s.S nid = none) (hw : ∀ x ∈ xs, x.length = wd) :
  AZ C s ((s.set nid (.arow e wd xs)).set id (.box ty (cs.set j (.row nid xs.length)))) := fun a w ⟨σ, ι, R⟩ => by
 have hbk := R.blk id _ hb
 have hne : id ≠ nid := fun e => by subst e; rw [hb] at hn; cases hn
 cases hbk with
 | @box _ _ g vs h1 h2 h3 h4 h5 =>
  obtain ⟨v, hv, hr⟩ := h4.get hc
  cases hr with
  | @full p len xs hs =>
   have hl : len = xs.length := by
    obtain ⟨p', cap', e1, _⟩ := B1 hs
    cases e1
    rfl
   subst hl
   obtain ⟨hu, R'⟩ := R.fresh (w' := w) hn (.arow e wd xs) ⟨p, xs.length, none⟩ (Ext.refl _ _) R.fit (Below.refl _ _) (by simp) (fun S' ι' hu => .afull rfl rfl hw hs)
   have hb' : (s.set nid (.arow e wd xs)).S id = some (.box ty cs) := by simp [AS.set, AD _ hne, hb]
   have hι : AF ι nid ⟨p, xs.length, none⟩ id = ι id := AD _ hne _
   obtain ⟨hu2, R2⟩ := R'.turn (w' := w) hb' (.box ty (cs.set j (.row nid xs.length))) (AF ι nid ⟨p, xs.length, none⟩ id) (σ' := σ) (fun _ _ h => h) (fun _ _ _ => rfl) R.fit (Nat.le_refl _) (fun _ => ⟨by simp [AG.wid], rfl⟩) ⟨rfl, rfl, rfl⟩ (Nat.le_refl _) (fun _ _ _ => rfl) (fun g h => .inl h) (fun hu2 => by
    refine .box (by rw [hι]; exact h1) (by rw [hι]; exact h2) h3 (AN.of_get (by rw [List.length_set]; exact h4.len) fun k u c hu' hck => ?_) h5
    by_cases hk : k = j
    ·subst hk
     rw [hv] at hu'
     cases hu'
     have hlt : k < cs.length := (List.getElem?_eq_some_iff.1 hc).1
     rw [List.getElem?_set_self hlt] at hck
     cases hck
     exact .row (b := .arow e wd xs) (by simp [AS.set, AF, hne.symm]) (Nat.le_refl _) rfl fun _ => by simp [AF, hne.symm]
    ·rw [List.getElem?_set_ne (fun e => hk e.symm)] at hck
     obtain ⟨u', q1, q2⟩ := h4.get hck
     rw [hu'] at q1
     cases q1
     exact (q2.mono (fun _ _ h => h) hu).mono (fun _ _ h => h) hu2)
   exact ⟨_, _, R2⟩
theorem Ph {v : Value} {c : AV} (h : AK σ noS noH v c) : AK σ s.S ι v c := h.mono (fun _ _ h => h) (Fr _ _)
def AV.low (v : AV) : AV := if v.high then v else .any
theorem AJ.low (R : AJ C σ ι s a w) (hb : ∀ i b, 1000 ≤ i → s.S i = some b → b.high = true) : AJ C σ ι ⟨fun i => (s.env i).low, Cj s.S⟩ a w := by
 have hS : ∀ i b, 1000 ≤ i → s.S i = some b → Cj s.S i = some b := fun i b hi h => by
  show (if i < 1000 then none else s.S i) = some b
  rw [if_neg (by omega), h]
 have hinv : ∀ i b, Cj s.S i = some b → 1000 ≤ i ∧ s.S i = some b := fun i b h => by
  have h' : (if i < 1000 then none else s.S i) = some b := h
  split at h'
  ·cases h'
  ·exact ⟨by omega, h'⟩
 refine ⟨R.size, fun i hi => ?_, R.nod, R.fit, fun id b h => ?_, fun id id' b b' g h1 h2 g1 g2 => R.inj _ _ _ _ g (hinv _ _ h1).2 (hinv _ _ h2).2 g1 g2, fun id b g h hg => R.base _ _ g (hinv _ _ h).2 hg, R.ext, R.old, R.os, R.grown, R.same, fun id b h => ?_⟩
 ·show AK σ (Cj s.S) ι _ ((s.env i).low)
  unfold AV.low
  split
  ·rename_i hh
   exact (R.env i hi).low hS hh
  ·exact .any
 ·obtain ⟨h1, h2⟩ := hinv _ _ h
  have hh := hb id b h1 h2
  cases R.blk id b h2 with
  | box k1 k2 k3 k4 k5 => exact .box k1 k2 k3 (Hh hS k4 hh) k5
  | crow k1 k2 k3 kc km k4 k5 => exact .crow k1 k2 k3 kc km (Hh hS k4 hh) k5
  | afull k1 k2 k3 k4 => exact .afull k1 k2 k3 k4
  | arow k1 k2 k3 k4 k5 k6 k7 k8 k9 kh => exact .arow k1 k2 k3 k4 k5 k6 k7 k8 k9 kh
  | mnil k1 k2 => exact .mnil k1 k2
  | mrow k1 k2 k3 k4 k5 k6 k7 k8 k9 => exact .mrow k1 k2 k3 k4 k5 k6 k7 k8 k9
  | map k1 k2 k3 k4 => exact .map k1 k2 k3 k4
  | memo k1 k2 k3 k4 => exact .memo k1 k2 k3 k4
  | iter k1 k2 k3 k4 => exact .iter k1 k2 (k3.low hS hh) k4
  | loop k1 k2 k3 k4 k5 => exact .loop k1 k2 k3 (AK.lows hS k4 hh) k5
  | dead k1 => exact .dead k1
 ·obtain ⟨b', h1, h2⟩ := R.upd id b h
  exact ⟨b', hS _ _ (C.clean id b h).1 h1, h2⟩
theorem AZ.low (hb : ∀ i b, 1000 ≤ i → s.S i = some b → b.high = true) : AZ C s ⟨fun i => (s.env i).low, Cj s.S⟩ := fun a w ⟨σ, ι, R⟩ => ⟨σ, ι, R.low hb⟩
def A_ (id a : Nat) (i : Nat) : Nat := if i = id then a else i
def AV.hand (id a : Nat) (v : AV) : AV := if (v.ren (A_ id a)).high then v.ren (A_ id a) else .any
section
variable {S S2 : AA} {ι2 : Ac} {id a0 : Nat}
theorem AW.hand (hS : ∀ i b, 1000 ≤ A_ id a0 i → S i = some b → S2 (A_ id a0 i) = some b ∧ ι2 (A_ id a0 i) = ι i) {v : Value} {c : AC} (h : AW σ S ι v c) (hc : (c.ren (A_ id a0)).high = true) : AW σ S2 ι2 v (c.ren (A_ id a0)) := by
 induction h with
 | st h => exact .st h
 | full h => exact .full h
 | row h1 h2 h3 h4 =>
  rw [AC.ren, AC.high] at hc
  obtain ⟨q1, q2⟩ := hS _ _ (of_decide_eq_true hc) h1
  rw [AC.ren]
  exact .row q1 h2 h3 (fun hn => by rw [q2]; exact h4 hn)
 | part h1 h2 h3 h4 =>
  rw [AC.ren, AC.high] at hc
  obtain ⟨q1, q2⟩ := hS _ _ (of_decide_eq_true hc) h1
  rw [AC.ren]
  exact .part q1 h2 h3 (fun hn => by rw [q2]; exact h4 hn)
 | rest h1 h2 h3 h4 =>
  rw [AC.ren, AC.high] at hc
  obtain ⟨q1, q2⟩ := hS _ _ (of_decide_eq_true hc) h1
  rw [AC.ren]
  exact .rest q1 h2 h3 (fun hn => by rw [q2]; exact h4 hn)
 | ptr h1 h2 h3 h4 =>
  rw [AC.ren, AC.high] at hc
  obtain ⟨q1, q2⟩ := hS _ _ (of_decide_eq_true hc) h1
  rw [AC.ren]
  exact .ptr q1 h2 h3 (fun hn => by rw [q2]; exact h4 hn)
 | mptr h1 h2 h3 h4 =>
  rw [AC.ren, AC.high] at hc
  obtain ⟨q1, q2⟩ := hS _ _ (of_decide_eq_true hc) h1
  rw [AC.ren]
  exact .mptr q1 h2 h3 (fun hn => by rw [q2]; exact h4 hn)
 | yld h1 h2 h3 h4 =>
  rw [AC.ren, AC.high] at hc
  obtain ⟨q1, q2⟩ := hS _ _ (of_decide_eq_true hc) h1
  rw [AC.ren]
  exact .yld q1 h2 h3 (fun hn => by rw [q2]; exact h4 hn)
 | ubool => exact .ubool
 | eptr c h1 h2 hh => exact .eptr c h1 h2 hh
 | @fn f vs caps c h1 h2 h3 ih =>
  rw [AC.ren, AC.high] at hc
  rw [AC.ren]
  have key : ∀ (j : Nat) (b : AC), (AC.rens (A_ id a0) caps)[j]? = some b → ∃ a, caps[j]? = some a ∧ b = a.ren (A_ id a0) := fun j b hb => by
   rw [AC.rens_eq, List.getElem?_map, Option.map_eq_some_iff] at hb
   obtain ⟨a, ha, rfl⟩ := hb
   exact ⟨a, ha, rfl⟩
  refine .fn c (by rw [AC.rens_eq]; simpa using h1) (fun j b hb => ?_) (fun j b hb => ?_)
  ·obtain ⟨a, ha, rfl⟩ := key j b hb
   exact h2 j a ha
  ·have hm := BN hc b (List.mem_of_getElem? hb)
   obtain ⟨a, ha, rfl⟩ := key j b hb
   exact ih j a ha hm
 | any h => exact .any h
mutual
theorem AK.hand (hS : ∀ i b, 1000 ≤ A_ id a0 i → S i = some b → S2 (A_ id a0 i) = some b ∧ ι2 (A_ id a0 i) = ι i) : ∀ {v : Value} {c : AV}, AK σ S ι v c → (c.ren (A_ id a0)).high = true → AK σ S2 ι2 v (c.ren (A_ id a0))
 | v, .one c, h, hc => by
  rw [AV.ren] at hc ⊢
  rw [AV.high] at hc
  cases h with | one h => exact .one (h.hand hS hc)
 | v, .agg cs, h, hc => by
  rw [AV.ren] at hc ⊢
  rw [AV.high] at hc
  cases h with
  | agg h =>
   refine .agg (AN.of_get (by rw [AC.rens_eq]; simpa using h.len) fun j x c hx hcj => ?_)
   have hm := BN hc c (List.mem_of_getElem? hcj)
   rw [AC.rens_eq, List.getElem?_map, Option.map_eq_some_iff] at hcj
   obtain ⟨c', hc', rfl⟩ := hcj
   obtain ⟨x', h1, h2⟩ := h.get hc'
   rw [hx] at h1
   cases h1
   exact h2.hand hS hm
 | v, .tup vs, h, hc => by
  rw [AV.ren] at hc ⊢
  rw [AV.high] at hc
  cases h with
  | tup c h1 h2 h3 =>
   obtain ⟨k1, k2⟩ := AK.hands hS h3 hc
   exact .tup c (by rw [h1, k1]) (fun j b hb => by
    rcases Nat.lt_or_ge j vs.length with hj | hj
    ·exact h2 j _ (List.getElem?_eq_getElem hj)
    ·rw [List.getElem?_eq_none (by omega)] at hb; cases hb) k2
 | v, .any, h, _ => .any
theorem AK.hands (hS : ∀ i b, 1000 ≤ A_ id a0 i → S i = some b → S2 (A_ id a0 i) = some b ∧ ι2 (A_ id a0 i) = ι i) : ∀ {vs : List AV} {c : Nat → Value}, (∀ j b, vs[j]? = some b → AK σ S ι (c j) b) → AV.highs (AV.rens (A_ id a0) vs) = true → vs.length = (AV.rens (A_ id a0) vs).length ∧ ∀ j b, (AV.rens (A_ id a0) vs)[j]? = some b → AK σ S2 ι2 (c j) b
 | [], c, h, _ => by simp [AV.rens]
 | x :: xs, c, h, hc => by
  rw [AV.rens, AV.highs, Bool.and_eq_true] at hc
  obtain ⟨m1, m2⟩ := AK.hands hS (vs := xs) (c := fun j => c (j + 1)) (fun j b hb => h (j + 1) b (by simpa using hb)) hc.2
  refine ⟨by simp [AV.rens, ← m1], fun j b hb => ?_⟩
  cases j with
  | zero =>
   simp [AV.rens] at hb
   subst hb
   exact AK.hand hS (h 0 x rfl) hc.1
  | succ j => exact m2 j b (by simpa [AV.rens] using hb)
end
end
theorem AW.stay {S S2 : AA} {ι2 : Ac} (hS : ∀ i b, 1000 ≤ i → S i = some b → S2 i = some b ∧ ι2 i = ι i) {v : Value} {c : AC} (h : AW σ S ι v c) (hc : c.high = true) : AW σ S2 ι2 v c := by
 induction h with
 | st h => exact .st h
 | full h => exact .full h
 | row h1 h2 h3 h4 =>
  rw [AC.high] at hc
  obtain ⟨q1, q2⟩ := hS _ _ (of_decide_eq_true hc) h1
  exact .row q1 h2 h3 (fun hn => by rw [q2]; exact h4 hn)
 | part h1 h2 h3 h4 =>
  rw [AC.high] at hc
  obtain ⟨q1, q2⟩ := hS _ _ (of_decide_eq_true hc) h1
  exact .part q1 h2 h3 (fun hn => by rw [q2]; exact h4 hn)
 | rest h1 h2 h3 h4 =>
  rw [AC.high] at hc
  obtain ⟨q1, q2⟩ := hS _ _ (of_decide_eq_true hc) h1
  exact .rest q1 h2 h3 (fun hn => by rw [q2]; exact h4 hn)
 | ptr h1 h2 h3 h4 =>
  rw [AC.high] at hc
  obtain ⟨q1, q2⟩ := hS _ _ (of_decide_eq_true hc) h1
  exact .ptr q1 h2 h3 (fun hn => by rw [q2]; exact h4 hn)
 | mptr h1 h2 h3 h4 =>
  rw [AC.high] at hc
  obtain ⟨q1, q2⟩ := hS _ _ (of_decide_eq_true hc) h1
  exact .mptr q1 h2 h3 (fun hn => by rw [q2]; exact h4 hn)
 | yld h1 h2 h3 h4 =>
  rw [AC.high] at hc
  obtain ⟨q1, q2⟩ := hS _ _ (of_decide_eq_true hc) h1
  exact .yld q1 h2 h3 (fun hn => by rw [q2]; exact h4 hn)
 | ubool => exact .ubool
 | eptr c h1 h2 hh => exact .eptr c h1 h2 hh
 | fn c h1 h2 h3 ih =>
  rw [AC.high] at hc
  exact .fn c h1 h2 (fun j a ha => ih j a ha (BN hc a (List.mem_of_getElem? ha)))
 | any h => exact .any h
theorem AJ.hand (R : AJ C σ ι s a w) (id a0 : Nat) {b0 : AG} (hid : id < 1000) (ha : 1000 ≤ a0) (hSa : s.S a0 = none) (hb0 : s.S id = some b0) (hbh : b0.high = true) (hb : ∀ i b, 1000 ≤ i → s.S i = some b → b.high = true) :
  AJ C σ (AF ι a0 (ι id)) ⟨fun i => (s.env i).hand id a0, AF (Cj s.S) a0 (some b0)⟩ a w ∧ ∀ i b, 1000 ≤ A_ id a0 i → s.S i = some b → AF (Cj s.S) a0 (some b0) (A_ id a0 i) = some b ∧ AF ι a0 (ι id) (A_ id a0 i) = ι i := by
 have hlow : ∀ i, 1000 ≤ i → Cj s.S i = s.S i := fun i hi => by
  show (if i < 1000 then none else s.S i) = _
  rw [if_neg (by omega)]
 have hS : ∀ i b, 1000 ≤ A_ id a0 i → s.S i = some b → AF (Cj s.S) a0 (some b0) (A_ id a0 i) = some b ∧ AF ι a0 (ι id) (A_ id a0 i) = ι i := fun i b hi h => by
  unfold A_ at hi ⊢
  by_cases e : i = id
  ·subst e
   rw [if_pos rfl, AB, AB, ← hb0, h]
   exact ⟨rfl, rfl⟩
  ·rw [if_neg e] at hi ⊢
   have hne : i ≠ a0 := fun e => by subst e; rw [hSa] at h; cases h
   rw [AD _ hne, AD _ hne, hlow i hi]
   exact ⟨h, rfl⟩
 have hS' : ∀ i b, 1000 ≤ i → s.S i = some b → AF (Cj s.S) a0 (some b0) i = some b ∧ AF ι a0 (ι id) i = ι i := fun i b hi h => by
  have hne : i ≠ a0 := fun e => by subst e; rw [hSa] at h; cases h
  rw [AD _ hne, AD _ hne, hlow i hi]
  exact ⟨h, rfl⟩
 have hinv : ∀ i b, AF (Cj s.S) a0 (some b0) i = some b → (i = a0 ∧ b = b0) ∨ (i ≠ a0 ∧ 1000 ≤ i ∧ s.S i = some b) := fun i b h => by
  by_cases e : i = a0
  ·subst e
   rw [AB] at h
   cases h
   exact .inl ⟨rfl, rfl⟩
  ·rw [AD _ e] at h
   have h' : (if i < 1000 then none else s.S i) = some b := h
   split at h'
   ·cases h'
   ·exact .inr ⟨e, by omega, h'⟩
 refine ⟨⟨R.size, fun i hi => ?_, R.nod, R.fit, fun i b h => ?_, fun i j b c g h1 h2 g1 g2 => ?_, fun i b g h hg => ?_, R.ext, R.old, R.os, R.grown, R.same, fun i b h => ?_⟩, hS⟩
 ·show AK σ (AF (Cj s.S) a0 (some b0)) _ _ ((s.env i).hand id a0)
  unfold AV.hand
  split
  ·rename_i hh
   exact (R.env i hi).hand hS hh
  ·exact .any
 ·rcases hinv i b h with ⟨rfl, rfl⟩ | ⟨hne, h1, h2⟩
  ·rw [AB]
   exact (R.blk id _ hb0).samecells (fun v c hv hc => hv.stay hS' hc) hbh
  ·rw [AD _ hne]
   exact (R.blk i b h2).samecells (fun v c hv hc => hv.stay hS' hc) (hb i b h1 h2)
 ·rcases hinv i b h1 with ⟨rfl, rfl⟩ | ⟨hne, k1, k2⟩ <;> rcases hinv j c h2 with ⟨rfl, rfl⟩ | ⟨hne', k1', k2'⟩
  ·rfl
  ·rw [AB] at g1
   rw [AD _ hne'] at g2
   have := R.inj _ _ _ _ g hb0 k2' g1 g2
   omega
  ·rw [AB] at g2
   rw [AD _ hne] at g1
   have := R.inj _ _ _ _ g k2 hb0 g1 g2
   omega
  ·rw [AD _ hne] at g1
   rw [AD _ hne'] at g2
   exact R.inj _ _ _ _ g k2 k2' g1 g2
 ·rcases hinv i b h with ⟨rfl, rfl⟩ | ⟨hne, k1, k2⟩
  ·rw [AB] at hg
   exact R.base _ _ g hb0 hg
  ·rw [AD _ hne] at hg
   exact R.base _ _ g k2 hg
 ·obtain ⟨b', h1, h2, h3⟩ := R.upd i b h
  obtain ⟨q1, q2⟩ := hS' i b' (C.clean i b h).1 h1
  exact ⟨b', q1, h2, fun hl => ⟨(h3 hl).1, by rw [q2]; exact (h3 hl).2⟩⟩
theorem AZ.hand (id a0 : Nat) {b0 : AG} (hid : id < 1000) (ha : 1000 ≤ a0) (hSa : s.S a0 = none) (hb0 : s.S id = some b0) (hbh : b0.high = true) (hb : ∀ i b, 1000 ≤ i → s.S i = some b → b.high = true) : AZ C s ⟨fun i => (s.env i).hand id a0, AF (Cj s.S) a0 (some b0)⟩ := fun a w ⟨σ, ι, R⟩ =>
 ⟨σ, _, (R.hand id a0 hid ha hSa hb0 hbh hb).1⟩
theorem NQ {C : Ctx} {rs : List RV} {S' : AA} {e : AX} {s : AS} (he : match e with | .normal => True | .ret => True | _ => False) (id a0 : Nat) (r0 : AV) {b0 : AG} (hid : id < 1000) (ha : 1000 ≤ a0) (hSa : s.S a0 = none) (hb0 : s.S id = some b0) (hbh : b0.high = true) (hb : ∀ i b, 1000 ≤ i → s.S i = some b → b.high = true)
  (h1 : (AO s rs).map Av = some r0) (hh : (r0.ren (A_ id a0)).high = true) (h3 : AF (Cj s.S) a0 (some b0) = S') (hc : Aa S') : H3 C rs (r0.ren (A_ id a0)) S' e s :=
 ⟨he, s, ⟨fun i => (s.env i).hand id a0, AF (Cj s.S) a0 (some b0)⟩, r0, AZ.refl _ _, h1, fun σ ι a w R => ⟨σ, _, (R.hand id a0 hid ha hSa hb0 hbh hb).1, fun v hv => hv.hand (R.hand id a0 hid ha hSa hb0 hbh hb).2 hh⟩, h3, hc⟩
theorem B8 (S : AA) (i : Nat) : upS S (up1 i) = (S i).map (AG.ren up1) := by
 show (if i + 1000 < 1000 then none else (S (i + 1000 - 1000)).map (AG.ren up1)) = _
 rw [if_neg (by omega), Nat.add_sub_cancel]
theorem El (S : AA) (i : Nat) (b : AG) : dnS (AF S (up1 i) (some b)) = AF (dnS S) i (some (b.ren dn1)) := by
 funext k
 show (AF S (up1 i) (some b) (up1 k)).map _ = AF (dnS S) i _ k
 by_cases h : k = i
 ·subst h
  rw [AB, AB]
  rfl
 ·have hne : up1 k ≠ up1 i := fun e => h (by have := congrArg dn1 e; rw [GW, GW] at this; exact this)
  rw [AD _ hne, AD _ h]
  rfl
theorem Ak {S : AA} (h : Aa S) {i : Nat} (hi : 1000 ≤ i) {b : AG} (hb : b.high = true) : Aa (AF S i (some b)) := fun k c hk => by
 by_cases e : k = i
 ·subst e
  rw [AB] at hk
  cases hk
  exact ⟨hi, hb⟩
 ·rw [AD _ e] at hk
  exact h k c hk
end
theorem IWP.loopD {P : Program} {C : Ctx} {mu : List Nat} {Q : AX → AS → Prop} {s : AS} {x : IR} (ds : List Nat) (Inv : Nat → AS → Prop) (m0 : Nat) (h0 : Inv m0 s) (h : ∀ m s, Inv m s → IWP P C mu x (AX.then (fun s' => ∃ m', m' < m ∧ Inv m' (s'.drop ds)) Q) s) (hds : ∀ d ∈ ds, d < 1000 := by decide) : IWP P C mu (.loop x) Q s := by
 refine IWP.loop (fun m s => ∃ s1, AZ C s s1 ∧ Inv m s1) m0 ⟨s, AZ.refl _ _, h0⟩ fun m s ⟨s1, hg, hi⟩ => ?_
 refine (IWP.ghost hg (h m s1 hi)).mono fun e s2 he => ?_
 cases e with
 | normal =>
  obtain ⟨m', h1, h2⟩ := he
  exact ⟨m', h1, _, AZ.drop ds s2 hds, h2⟩
 | _ => exact he
theorem AW.out {σ : Sto} {S : AA} {ι : Ac} {v : Value} {c : AC} (h : AW σ S ι v c) (hc : outC noS c = some c) : AW σ noS noH v c := by
 cases h with
 | st h => exact .st h
 | full h => simp [outC, stC] at hc
 | row h1 h2 h3 h4 => simp [outC, stC, noS] at hc
 | part h1 h2 h3 h4 => simp [outC, stC, noS] at hc
 | rest h1 h2 h3 h4 => simp [outC, stC, noS] at hc
 | ptr h1 h2 h3 h4 => simp [outC, stC] at hc
 | mptr h1 h2 h3 h4 => simp [outC, stC] at hc
 | yld h1 h2 h3 h4 => simp [outC, stC] at hc
 | ubool => exact .ubool
 | eptr c h1 h2 hh => exact .eptr c h1 h2 hh
 | @fn f vs caps c h1 h2 h3 =>
  cases caps with
  | nil => exact .fn c h1 h2 (by simp)
  | cons x xs =>
   have hall : (x :: xs).all AC.stay = true := by
    unfold outC at hc
    by_cases e : (x :: xs).all AC.stay = true
    ·exact e
    ·simp only [e, if_false] at hc
     cases hc
   exact .fn c h1 h2 fun j a ha => (h3 j a ha).staying (List.all_eq_true.1 hall a (List.mem_of_getElem? ha))
 | any h => simp [outC, stC] at hc
theorem Hj : ∀ {cs : List AC}, outCs noS cs = some cs → ∀ c ∈ cs, outC noS c = some c
 | [], _, c, hc => by simp at hc
 | x :: xs, h, c, hc => by
  simp only [outCs] at h
  split at h
  ·rename_i y ys h1 h2
   simp only [Option.some.injEq, List.cons.injEq] at h
   obtain ⟨rfl, rfl⟩ := h
   rcases List.mem_cons.1 hc with rfl | hc
   ·exact h1
   ·exact Hj h2 c hc
  ·cases h
mutual
theorem AK.out {σ : Sto} {S : AA} {ι : Ac} : ∀ {v : Value} {c : AV}, AK σ S ι v c → outV noS c = some c → AK σ noS noH v c
 | v, .one c, h, hc => by
  rw [outV, Option.map_eq_some_iff] at hc
  obtain ⟨a, h1, h2⟩ := hc
  cases h2
  cases h with | one h => exact .one (h.out h1)
 | v, .agg cs, h, hc => by
  rw [outV, Option.map_eq_some_iff] at hc
  obtain ⟨a, h1, h2⟩ := hc
  cases h2
  cases h with
  | agg h => exact .agg (AN.of_get h.len fun j x c hx hcj => by
    obtain ⟨x', q1, q2⟩ := h.get hcj
    rw [hx] at q1
    cases q1
    exact q2.out (Hj h1 c (List.mem_of_getElem? hcj)))
 | v, .tup vs, h, hc => by
  rw [outV, Option.map_eq_some_iff] at hc
  obtain ⟨a, h1, h2⟩ := hc
  cases h2
  cases h with
  | tup c k1 k2 k3 => exact .tup c k1 k2 (AK.outs k3 h1)
 | v, .any, h, _ => .any
theorem AK.outs {σ : Sto} {S : AA} {ι : Ac} : ∀ {vs : List AV} {c : Nat → Value}, (∀ j b, vs[j]? = some b → AK σ S ι (c j) b) → outVs noS vs = some vs → ∀ j b, vs[j]? = some b → AK σ noS noH (c j) b
 | [], c, h, _, j, b, hb => by simp at hb
 | x :: xs, c, h, hc, j, b, hb => by
  rw [outVs] at hc
  split at hc
  ·rename_i y ys h1 h2
   simp only [Option.some.injEq, List.cons.injEq] at hc
   obtain ⟨rfl, rfl⟩ := hc
   cases j with
   | zero =>
    simp at hb
    subst hb
    exact AK.out (h 0 _ rfl) h1
   | succ j => exact AK.outs (c := fun j => c (j + 1)) (fun j b hb => h (j + 1) b (by simpa using hb)) h2 j b (by simpa using hb)
  ·cases hc
end
theorem O0 {C : Ctx} {rs : List RV} {r : AV} {S' : AA} {e : AX} {s : AS} (he : match e with | .normal => True | .ret => True | _ => False) (r0 : AV) (h1 : (AO s rs).map Av = some r0) (h2 : outV s.S r0 = some r) (hb : ∀ i b, 1000 ≤ i → s.S i = some b → b.high = true) (h3 : Cj s.S = S') (hc : Aa S') : H3 C rs r S' e s := by
 refine ⟨he, s, ⟨fun i => (s.env i).low, Cj s.S⟩, r0, AZ.refl _ _, h1, fun σ ι a w R => ?_, h3, hc⟩
 exact ⟨σ, ι, R.low hb, fun v hv => Ph (s := ⟨fun i => (s.env i).low, Cj s.S⟩) (R.outV hv h2)⟩
theorem CX {C : Ctx} {rs : List RV} {r : AV} {e : AX} {s : AS} {S : AA} (r0 : AV) (hS : Aa S) (he : match e with | .normal => True | .ret => True | _ => False)
  (h1 : (AO s rs).map Av = some r0) (h2 : outV s.S r0 = some r) (h4 : ∀ i, 1000 ≤ i → s.S i = S i) : H3 C rs r S e s :=
 O0 he r0 h1 h2 (fun i b hi hb => (hS i b (by rw [← h4 i hi]; exact hb)).2) (by
  funext i
  unfold Cj
  split
  ·exact (C2 hS (by omega)).symm
  ·exact h4 i (by omega)) hS
theorem Ls {C : Ctx} {rs : List RV} {r : AV} {S' : AA} {e : AX} {s s1 : AS} (hg : AZ C s s1) (h : H3 C rs r S' e s1) : H3 C rs r S' e s := by
 obtain ⟨he, s2, s3, r0, h1, h2⟩ := h
 exact ⟨he, s2, s3, r0, hg.trans h1, h2⟩
theorem QM {C : Ctx} {rs : List RV} {e : AX} {s : AS} {ty : TypeId} {w n : Nat} {ys : List (List SV)} {mu : Bool} (he : match e with | .normal => True | .ret => True | _ => False) (id : Nat) (hid : id < 1000) (hb0 : s.S id = some (Gh mu ty w ys)) (hlow : ∀ i, 1000 ≤ i → s.S i = none)
  (h1 : (AO s rs).map Av = some (.one (.row id n))) : H3 C rs (.one (.row 1000 n)) (fun i => if i = 1000 then some (Gh mu ty w ys) else noS i) e s := by
 have e1 : (AV.one (.row id n)).ren (A_ id 1000) = .one (.row 1000 n) := by simp [AV.ren, AC.ren, A_]
 rw [← e1]
 refine NQ he id 1000 _ hid (by decide) (hlow 1000 (by decide)) hb0 (by cases mu <;> rfl) (fun i b hi hb => by rw [hlow i hi] at hb; cases hb) h1 (by rw [e1]; rfl) ?_ ?_
 ·funext i
  unfold AF Cj noS
  by_cases h2 : i = 1000
  ·rw [if_pos h2, if_pos h2]
  ·rw [if_neg h2, if_neg h2]
   split
   ·rfl
   ·exact hlow i (by omega)
 ·intro i b hb
  have hb : (if i = 1000 then some (Gh mu ty w ys) else noS i) = some b := hb
  split at hb
  ·rename_i h2
   cases hb
   exact ⟨by omega, by cases mu <;> rfl⟩
  ·cases hb

theorem M1 (c P Q : Prop) [Decidable c] : ((c → P) ∧ (¬ c → Q)) = if c then P else Q := by
 by_cases h : c <;> simp [h]
theorem Nt {c A B : Prop} [Decidable c] (h : (c → A) ∧ (¬ c → B)) : if c then A else B := by
 by_cases hc : c
 ·rw [if_pos hc]; exact h.1 hc
 ·rw [if_neg hc]; exact h.2 hc
theorem OU (b : Bool) (P Q : Prop) : ((b = true → P) ∧ (b = false → Q)) = if b = true then P else Q := by
 cases b <;> simp
attribute [congr] Js.congr Fw.congr
mutual
def Lq : Tm → List SV
 | .mk n xs => [.str n, .list (L8 xs)]
def L8 : List Tm → List (List SV)
 | [] => []
 | t :: ts => Lq t :: L8 ts
end
theorem Jl : ∀ xs : List Tm, L8 xs = xs.map Lq
 | [] => rfl
 | t :: ts => by rw [L8, Jl ts]; rfl
theorem Mc (t : Tm) : Lq t = [.str t.name, .list (t.args.map Lq)] := by
 cases t
 rw [Lq, Jl]
 rfl
class K6 {α : Type} (f : α → List SV) (n : outParam Nat) : Prop where
 ok : ∀ a, (f a).length = n
theorem Qa {α : Type} {f : α → List SV} {n : Nat} [h : K6 f n] {ts : List α} : ∀ x ∈ ts.map f, x.length = n := fun x hx => by
 obtain ⟨a, _, rfl⟩ := List.mem_map.1 hx
 exact h.ok a
instance : K6 Lq 2 := ⟨fun t => by rw [Mc]; rfl⟩
theorem Tm.args_mk (n : ByteArray) (xs : List Tm) : (Tm.mk n xs).args = xs := rfl
theorem Tm.name_mk (n : ByteArray) (xs : List Tm) : (Tm.mk n xs).name = n := rfl
abbrev AP (n : Int) : AV := .one (.st (.int .i64 n))
abbrev Bk (b : Bool) : AV := .one (.st (.bool b))
abbrev NC (s : ByteArray) : AV := .one (.st (.str s))
abbrev Bo (n : Int) : List SV := [.int .i64 n]
abbrev EM (l : List Int) : AV := .one (.st (.list (l.map Bo)))
theorem Aq {α : Type} {xs : List α} {k : Nat} (h : k < xs.length) : ∃ a, xs[k]? = some a := ⟨xs[k], List.getElem?_eq_getElem h⟩
theorem DA (n : Int) : inR .i64 n ↔ -9223372036854775808 ≤ n ∧ n ≤ 9223372036854775807 := by
 simp [inR, IntKind.min, IntKind.max, IntKind.signed, IntKind.bits]
theorem Ll {l : List Int} (h : (SV.list (l.map Bo)).known) : l.length ≤ maxLen ∧ ∀ n ∈ l, inR .i64 n := by
 obtain ⟨h1, h2⟩ := h
 refine ⟨by simpa using h1, fun n hn => ?_⟩
 have := Dv.1 (C7.1 h2 (Bo n) (List.mem_map.2 ⟨n, hn, rfl⟩)) (.int .i64 n) (by simp)
 exact this
theorem DM : maxLen = 9223372036854775807 := by simp [maxLen]

def Kd.isCall : Kd → Bool
 | .call _ _ => true
 | .callS _ _ => true
 | .callV _ _ => true
 | .callN _ _ => true
 | .callR _ _ => true
 | .callW _ _ => true
 | .callX _ _ => true
 | .callY _ _ => true
 | .buildFlat _ => false
 | .cutP _ _ _ => false
 | .indexP _ _ _ => false
 | .appP _ _ _ _ _ => false
 | .restP _ _ _ => false
 | .appS _ _ _ => false
 | .loadL _ _ _ => false
 | .indexL _ _ _ => false
 | .buildL _ _ => false
 | .fieldL _ _ => false
 | .lenL _ _ => false
 | .appF _ _ _ _ _ _ => false
 | .clearP _ _ _ _ => false
 | .copyP _ _ => false
 | .mov _ => false
 | .pick _ _ _ => false
 | .alloc _ _ => false
 | .box _ _ => false
 | .build _ _ => false
 | .buildSlice _ _ _ _ => false
 | .load _ _ _ => false
 | .store _ _ _ => false
 | .fieldAddr _ _ => false
 | .field _ _ _ _ => false
 | .indexAddr _ _ _ => false
 | .indexArr _ _ _ _ => false
 | .indexStr _ _ => false
 | .bin _ _ _ => false
 | .eqB _ _ _ => false
 | .eqN _ _ => false
 | .eqE _ _ => false
 | .eqP _ _ => false
 | .bits _ _ _ => false
 | .never => false
 | .pan _ => false
 | .iface _ _ => false
 | .strOf _ _ => false
 | .un _ _ => false
 | .sliceS _ _ _ => false
 | .sliceL _ _ _ _ => false
 | .sliceM _ _ _ _ => false
 | .extract _ _ => false
 | .len _ _ => false
 | .append _ _ _ _ _ _ => false
 | .conv _ _ => false
 | .nilCheck _ => false
 | .mm _ _ _ => false
 | .makeSlice _ _ _ _ _ _ => false
 | .makeFunc _ _ => false
 | .makeMap _ => false
 | .lookup _ _ _ _ _ => false
 | .mapSet _ _ _ _ => false
 | .mapEntry _ _ _ _ => false
 | .entrySet _ _ _ => false
 | .rangeM _ => false
 | .next _ => false
 | .entry _ => false
 | .lenM _ => false
 | .buildArr _ => false
 | .makeMemo => false
 | .memoGet _ _ _ _ => false
 | .memoSet _ _ _ => false
inductive P8 (P : Program) (f : FuncId) (vs : List AV) (d : Option Nat) (l : List Ins) (s : AS) (K : AS → Prop) : Prop
 | mk (r : AV) (h1 : A0 P f vs r) (h2 : Run P l (s.put d r) K)
inductive JX (P : Program) (f : FuncId) (vs : List AV) (S : AA) (ks : List Nat) (d : Option Nat) (l : List Ins) (env : Nat → AV) (K : AS → Prop) : Prop
 | mk (r : AV) (S' : AA) (h1 : BR P f vs (upS S) r S') (h2 : (∀ k ∈ ks, dnS S' k = S k) ∧ Run P l ((⟨env, dnS S'⟩ : AS).put d (r.ren dn1)) K)
inductive OJ (P : Program) (f : FuncId) (vs : List AV) (ks : List Nat) (d : Option Nat) (l : List Ins) (s : AS) (K : AS → Prop) : Prop
 | mk (mu : Bool) (e : TypeId) (w : Nat) (ys : List (List SV)) (h1 : Gj P f vs e w ys mu) (h2 : s.S (d.getD 0) = none ∧ (∀ k ∈ ks, (s.set (d.getD 0) (Gh mu e w ys)).S k = s.S k) ∧ Run P l ((s.set (d.getD 0) (Gh mu e w ys)).put d (.one (.row (d.getD 0) ys.length))) K)
inductive QO (P : Program) (f : FuncId) (vs : List AV) (d : Option Nat) (l : List Ins) (s : AS) (K : AS → Prop) : Prop
 | mk (r : AV) (rows : List (Nat × AG)) (h0 : ∀ q ∈ rows, s.S q.1 = some q.2) (h1 : ∀ T : AA, (∀ q ∈ rows, T q.1 = some q.2) → BR P f vs (upS T) r (upS T)) (h2 : Run P l (s.put d (r.ren dn1)) K)
inductive Oc (P : Program) (f : FuncId) (vs : List AV) (ks : List Nat) (d : Option Nat) (l : List Ins) (s : AS) (K : AS → Prop) : Prop
 | mk (r : AV) (rows : List (Nat × AG × AG)) (h0 : MM s.S rows) (h1 : ∀ T : AA, MM T rows → BR P f vs (upS T) r (upS (D9 T rows))) (h2 : (∀ k ∈ ks, D9 s.S rows k = s.S k) ∧ Run P l ((⟨s.env, D9 s.S rows⟩ : AS).put d (r.ren dn1)) K)
inductive JI (P : Program) (S : AA) (hs : Bool) (G : AA → (AV → AA → Prop) → Prop) (d : Option Nat) (l : List Ins) (env : Nat → AV) (K : AS → Prop) : Prop
 | mk (T : AA) (Post : AV → AA → Prop) (h1 : Aa T) (h2 : ∀ i, 1000 ≤ i → S i = T i) (h3 : hs = true) (h4 : G T Post) (h5 : ∀ r S', Aa S' → Post r S' → Run P l ((⟨env, CJ S S'⟩ : AS).put d r) K)
def Kd.goC (P : Program) (d : Option Nat) (s : AS) (t : Tag) (l : List Ins) (K : AS → Prop) : Kd → Prop
 | .call f xs => match t with
  | .no => match outVs s.S (s.evs xs) with
   | some vs => P8 P f vs d l s K
   | none => False
  | _ => False
 | .callR f xs => match t with
  | .no => QO P f (AV.rens up1 (s.evs xs)) d l s K
  | _ => False
 | .callW f xs => match t with
  | .no => Oc P f (AV.rens up1 (s.evs xs)) [] d l s K
  | .keeps ks => Oc P f (AV.rens up1 (s.evs xs)) ks d l s K
  | .onb _ => False
 | .callX f xs => match t with
  | .no => JI P s.S (AV.highs ((s.evs xs).map (FL s.S))) (EV P f ((s.evs xs).map (FL s.S))) d l s.env K
  | _ => False
 | .callY f xs => match t with
  | .no => JI P s.S ((s.ev f).high && AV.highs ((s.evs xs).map (FL s.S))) (Co P (s.ev f) ((s.evs xs).map (FL s.S))) d l s.env K
  | _ => False
 | .callN f xs => match t with
  | .no => match outVs s.S (s.evs xs) with
   | some vs => OJ P f vs [] d l s K
   | none => False
  | .keeps ks => match outVs s.S (s.evs xs) with
   | some vs => OJ P f vs ks d l s K
   | none => False
  | .onb _ => False
 | .callS f xs => match t with
  | .no => JX P f (AV.rens up1 (s.evs xs)) s.S [] d l s.env K
  | .keeps ks => JX P f (AV.rens up1 (s.evs xs)) s.S ks d l s.env K
  | .onb _ => False
 | .callV f xs => match (s.ev f).fnOf with
  | some (g, caps) => Bz P g = true ∧ match t with
   | .no => JX P g (AV.rens up1 (s.evs xs ++ caps.map .one)) s.S [] d l s.env K
   | .keeps ks => JX P g (AV.rens up1 (s.evs xs ++ caps.map .one)) s.S ks d l s.env K
   | .onb _ => False
  | _ => False
 | _ => False
def E3 (P : Program) : List Ins → AS → (AS → Prop) → Prop
 | [], s, K => K s
 | i :: l, s, K => match i.kd.isCall with
  | false => match i.guard with
   | none => i.kd.goT P (i.dst.getD 0) s i.tag fun v s' => E3 P l (s'.put i.dst v) K
   | some (g, want) => match s.env g with
    | .one (.st (.bool b)) => (b = want → i.kd.goT P (i.dst.getD 0) s i.tag fun v s' => E3 P l (s'.put i.dst v) K) ∧ (¬ b = want → E3 P l (s.put i.dst (.tup [])) K)
    | .tup [] => E3 P l (s.put i.dst (.tup [])) K
    | _ => False
  | true => match i.guard with
   | none => i.kd.goC P i.dst s i.tag l K
   | some (g, want) => match s.env g with
    | .one (.st (.bool b)) => (b = want → i.kd.goC P i.dst s i.tag l K) ∧ (¬ b = want → E3 P l (s.put i.dst (.tup [])) K)
    | .tup [] => E3 P l (s.put i.dst (.tup [])) K
    | _ => False
section
variable {P : Program}
theorem MY {kd : Kd} {d : Option Nat} {s : AS} {t : Tag} {l : List Ins} {K : AS → Prop} (h : kd.goC P d s t l K) : kd.goT P (d.getD 0) s t fun v s' => Run P l (s'.put d v) K := by
 cases kd <;> simp only [Kd.goC] at h
 case call f xs =>
  cases t <;> simp only at h
  split at h
  ·rename_i vs e
   obtain ⟨r, h1, h2⟩ := h
   simp only [Kd.goT, Kd.go, e]
   exact ⟨r, h1, trivial, h2⟩
  ·exact h.elim
 case callN f xs =>
  cases t <;> simp only at h
  ·split at h
   ·rename_i vs e
    obtain ⟨mu, ty, w, ys, h1, h2, _, h3⟩ := h
    simp only [Kd.goT, Kd.go, e]
    exact ⟨mu, ty, w, ys, h1, h2, trivial, h3⟩
   ·exact h.elim
  ·split at h
   ·rename_i vs e
    obtain ⟨mu, ty, w, ys, h1, h2, h4, h3⟩ := h
    simp only [Kd.goT, Kd.go, e]
    exact ⟨mu, ty, w, ys, h1, h2, h4, h3⟩
   ·exact h.elim
 case callW f xs =>
  cases t <;> simp only at h
  ·obtain ⟨r, rows, h0, h1, _, h2⟩ := h
   simp only [Kd.goT, Kd.go]
   exact ⟨r, rows, h0, h1, trivial, h2⟩
  ·obtain ⟨r, rows, h0, h1, hk, h2⟩ := h
   simp only [Kd.goT, Kd.go]
   exact ⟨r, rows, h0, h1, hk, h2⟩
 case callX f xs =>
  cases t <;> simp only at h
  obtain ⟨T, Post, h1, h2, h3, h4, h5⟩ := h
  exact ⟨T, Post, h1, h2, h3, h4, fun r S' k1 k2 => ⟨trivial, h5 r S' k1 k2⟩⟩
 case callY f xs =>
  cases t <;> simp only at h
  obtain ⟨T, Post, h1, h2, h3, h4, h5⟩ := h
  exact ⟨T, Post, h1, h2, h3, h4, fun r S' k1 k2 => ⟨trivial, h5 r S' k1 k2⟩⟩
 case callR f xs =>
  cases t <;> simp only at h
  obtain ⟨r, rows, h0, h1, h2⟩ := h
  simp only [Kd.goT, Kd.go]
  exact ⟨r, rows, h0, h1, trivial, h2⟩
 case callS f xs =>
  cases t <;> simp only at h
  ·obtain ⟨r, S', h1, h2, h3⟩ := h
   exact ⟨r, S', h1, trivial, h3⟩
  ·obtain ⟨r, S', h1, h2, h3⟩ := h
   exact ⟨r, S', h1, h2, h3⟩
 case callV f xs =>
  split at h
  ·rename_i g caps e
   obtain ⟨hp, h⟩ := h
   cases t <;> simp only at h
   ·obtain ⟨r, S', h1, h2, h3⟩ := h
    simp only [Kd.goT, Kd.go, e]
    exact ⟨hp, r, S', h1, trivial, h3⟩
   ·obtain ⟨r, S', h1, h2, h3⟩ := h
    simp only [Kd.goT, Kd.go, e]
    exact ⟨hp, r, S', h1, h2, h3⟩
  ·exact h.elim
theorem Bi : ∀ {l : List Ins} {s : AS} {K : AS → Prop}, E3 P l s K → Run P l s K
 | [], s, K, h => h
 | i :: l, s, K, h => by
  unfold E3 at h
  unfold Run
  split at h
  ·split at h
   ·rename_i e
    simp only [e]
    exact Df h fun v s' _ h' => Bi h'
   ·rename_i g want e
    simp only [e]
    split at h
    ·rename_i b e2
     simp only [e2]
     exact ⟨fun hb => Df (h.1 hb) fun v s' _ h' => Bi h', fun hb => Bi (h.2 hb)⟩
    ·rename_i e2
     simp only [e2]
     exact Bi h
    ·exact h.elim
  ·split at h
   ·rename_i e
    simp only [e]
    exact MY h
   ·rename_i g want e
    simp only [e]
    split at h
    ·rename_i b e2
     simp only [e2]
     exact ⟨fun hb => MY (h.1 hb), fun hb => Bi (h.2 hb)⟩
    ·rename_i e2
     simp only [e2]
     exact Bi h
    ·exact h.elim
theorem F1 {l : List Ins} {s : AS} {K : AS → Prop} {A : Prop} (h : A ∧ E3 P l s K) : A ∧ Run P l s K := ⟨h.1, Bi h.2⟩
theorem IWP.ops2 {C : Ctx} {mu : List Nat} {Q : AX → AS → Prop} {s : AS} {l : List Ins} (h : ∀ K : AS → Prop, (∀ s, Q .normal s → K s) → E3 P l s K) : IWP P C mu (.ops l) Q s := IWP.opsK fun K hK => Bi (h K hK)
end
attribute [go_sem] Py OK Nr IY Ins.i Ins.m Ins.L Ins.l Ins.f Ins.s Opd.n Gh D9 E3 Kd.isCall Kd.goC Kd.goT Tag.ok Kd.ptrOpd EI List.forall_mem_cons List.not_mem_nil Kd.go AS.ev AS.evs AS.put AS.set AF AV.cells Fl Ca EG stP Nz stC stCs outC outCs outV outVs D6 CC Bj B2 Og DE M3 NM optI Kx splice AG.len AS.start AS.startS noS List.getElem?_cons_zero List.getElem?_cons_succ List.getElem?_nil List.getElem?_map Option.isSome_none Option.isSome_some Option.map_some Option.map_none Option.getD_some Option.getD_none List.length_map List.length_cons List.length_nil List.length_append List.map_cons List.map_nil List.take_succ_cons List.take_zero List.take_nil List.drop_succ_cons List.drop_zero List.drop_nil List.nil_append List.cons_append List.append_nil Nat.zero_add Nat.add_zero Nat.le_refl Nat.zero_le if_true if_false Bool.false_eq_true true_and and_true Option.some.injEq Int.toNat_natCast Int.natCast_nonneg Int.ofNat_eq_natCast ite_self decide_true decide_false not_true_eq_false not_false_eq_true true_implies false_implies implies_true Bool.true_eq_false eq_self Bool.not_true Bool.not_false beq_self_eq_true Tm.args_mk Tm.name_mk AV.rens AV.ren AC.ren AC.rens AG.ren B8 GW El HL
theorem MF (T : AA) (i : Nat) (b : AG) : upS (AF T i (some b)) = AF (upS T) (up1 i) (some (b.ren up1)) := by
 funext k
 show (if k < 1000 then none else (AF T i (some b) (k - 1000)).map (AG.ren up1)) = _
 by_cases e : k = up1 i
 ·subst e
  rw [AB, if_neg (by have := Ba i; omega), show up1 i - 1000 = i from GW i, AB]
  rfl
 ·rw [AD _ e]
  by_cases hk : k < 1000
  ·rw [if_pos hk]
   show none = if k < 1000 then none else _
   rw [if_pos hk]
  ·rw [if_neg hk, AD _ (fun h => e (by rw [← h]; exact (HX (by omega)).symm))]
   show _ = if k < 1000 then none else _
   rw [if_neg hk]
abbrev Wa := @IWP.seq
abbrev Wb := @EQ
abbrev Wc := @IWP.block
abbrev Wd := @IWP.skip
abbrev We := @IWP.exit
abbrev Wg := @IQ
abbrev Wh := @KY
abbrev Wi := @EB
abbrev Wj := @Fp
abbrev Wk := @Fs
abbrev Wl := @GT
abbrev Wm := @If
abbrev Wn := @KE
abbrev Wo := @IWP.ops2
abbrev Wp := @IWP.cond
abbrev Wq := @Bi
abbrev Wr := @F1
abbrev iC := @Nt
abbrev Cg := @P8.mk
abbrev dT := @decide_eq_true_eq
abbrev dF := @decide_eq_false_iff_not
abbrev nL := @Int.ofNat_lt
abbrev eT := @Mc
abbrev iR := @DA
attribute [go_sem ↓] M1 OU
theorem Ai {a b : Prop} (k : b) (h : a := by first | omega | exact Qa | (simp [DM] <;> omega)) : a ∧ b := ⟨h, k⟩
theorem Z0 {id id' : Nat} {Q : AX → AS → Prop} {s : AS} (h : Q (.exit id') s) (hne : id' ≠ id := by decide) : AX.inBlock id Q (.exit id') s := Fs hne h
theorem fN {α : Type} (p : α → Prop) : ∀ x ∈ ([] : List α), p x := List.forall_mem_nil p
class Fd (goal : Prop) (prev : outParam Prop) : Prop where
 imp : prev → goal
theorem W {goal prev : Prop} [s : Fd goal prev] (h : prev) : goal := s.imp h
section
variable {P : Program} {C : Ctx} {mu : List Nat} {x y : IR} {Q : AX → AS → Prop} {s : AS} {id : Nat} {K : AS → Prop}
instance : Fd (IWP P C mu (.seq x y) Q s) (IWP P C mu x (KH P C mu y Q) s) := ⟨IWP.seq⟩
instance : Fd (KH P C mu y Q .normal s) (IWP P C mu y Q s) := ⟨EQ⟩
instance : Fd (IWP P C mu (.block id x) Q s) (IWP P C mu x (AX.inBlock id Q) s) := ⟨IWP.block⟩
instance : Fd (IWP P C mu .skip Q s) (Q .normal s) := ⟨IWP.skip⟩
instance : Fd (IWP P C mu (.exit id) Q s) (Q (.exit id) s) := ⟨IWP.exit⟩
instance : Fd (IWP P C mu .ret Q s) (Q .ret s) := ⟨IWP.ret⟩
instance : Fd (KH P C mu y Q (.exit id) s) (Q (.exit id) s) := ⟨IQ⟩
instance : Fd (KH P C mu y Q .ret s) (Q .ret s) := ⟨KY⟩
instance : Fd (AX.inBlock id Q .normal s) (Q .normal s) := ⟨EB⟩
instance : Fd (AX.inBlock id Q (.exit id) s) (Q .normal s) := ⟨Fp⟩
instance : Fd (AX.inBlock id Q .ret s) (Q .ret s) := ⟨GT⟩
instance : Fd (AX.then K Q (.exit id) s) (Q (.exit id) s) := ⟨If⟩
instance : Fd (AX.then K Q .ret s) (Q .ret s) := ⟨KE⟩
class PJ (goal : Prop) (prev : outParam Prop) : Prop where
 imp : prev → goal
class MH (goal : Prop) (prev : outParam Prop) : Prop where
 imp : prev → goal
theorem U {goal prev : Prop} [s : PJ goal prev] (h : prev) : goal := s.imp h
theorem V {goal prev : Prop} [s : MH goal prev] (h : prev) : goal := s.imp h
instance {l : List Ins} : PJ (Run P l s K) (E3 P l s K) := ⟨Bi⟩
instance {l : List Ins} {A : Prop} : PJ (A ∧ Run P l s K) (A ∧ E3 P l s K) := ⟨F1⟩
instance {l : List Ins} : MH (Run P l s K) (E3 P l s K) := ⟨Bi⟩
instance {l : List Ins} {A : Prop} : MH (A ∧ Run P l s K) (A ∧ E3 P l s K) := ⟨F1⟩
instance {c0 : Opd} : MH (IWP P C mu (.cond c0 x y) Q s) (match s.ev c0 with | .one (.st (.bool b)) => (b = true → IWP P C mu x Q s) ∧ (b = false → IWP P C mu y Q s) | .one .ubool => IWP P C mu x Q s ∧ IWP P C mu y Q s | _ => False) := ⟨IWP.cond⟩
end
theorem IWP.fresh {P : Program} {C : Ctx} {mu : List Nat} {x : IR} {Q : AX → AS → Prop} {s : AS} (h1000 : ∀ i, 1000 ≤ i → s.S i = none) (h : ∀ env' : Nat → AV, (∀ i v, s.env i = .one (.st v) → env' i = .one (.st v)) → IWP P C mu x Q ⟨env', noS⟩) : IWP P C mu x Q s := by
 refine IWP.ghost (AZ.low (s := s) fun i b hi hb => by rw [h1000 i hi] at hb; cases hb) ?_
 have e : Cj s.S = noS := by
  funext i
  show (if i < 1000 then none else s.S i) = none
  split
  ·rfl
  ·exact h1000 i (by omega)
 rw [e]
 exact h _ fun i v hv => by rw [hv]; rfl
theorem IWP.mid {P : Program} {C : Ctx} {mu : List Nat} {x y : IR} {Q : AX → AS → Prop} {s : AS} (M : AS → Prop) (h1 : IWP P C mu x (fun e s => e = .normal ∧ M s) s) (h2 : ∀ s, M s → IWP P C mu y Q s) : IWP P C mu (x.seq y) Q s :=
 IWP.seq (h1.mono fun e s ⟨he, hm⟩ => by subst he; exact EQ (h2 s hm))



structure Mv where
 name : ByteArray
 frm : List Int
 to_ : Int
structure Au where
 states : Int
 moves : List Mv
 last : List Int
def inS (S : Int) (s : Int) : Bool := decide (0 ≤ s) && decide (s < S)
def Mv.err (S : Int) (m : Mv) : Int := if BD m.name = true ∧ Ch m.name = false then (if 4 < m.frm.length then 3 else if m.frm.all (inS S) = true ∧ inS S m.to_ = true then 0 else 10) else 1
def BA (S : Int) : List Mv → Int
 | [] => 0
 | m :: ms => if m.err S = 0 then BA S ms else m.err S
def Au.may (a : Au) (S M : Int) : Int := if a.states < 0 ∨ S < a.states ∨ M < a.moves.length then 3 else if BA a.states a.moves = 0 then (if a.last.all (inS a.states) = true then 0 else 10) else BA a.states a.moves
theorem E2 (S : Int) (xs ys : List Mv) : BA S (xs ++ ys) = if BA S xs = 0 then BA S ys else BA S xs := by
 induction xs with
 | nil => simp [BA]
 | cons x xs ih =>
  simp only [List.cons_append, BA, ih]
  by_cases h : x.err S = 0
  ·simp [h]
  ·simp [h]
theorem ER {S : Int} {xs : List Mv} {k : Nat} {m : Mv} (hm : xs[k]? = some m) (h : BA S (xs.take k) = 0) : BA S (xs.take (k + 1)) = m.err S := by
 rw [Ay hm, E2, if_pos h]
 simp only [BA]
 split
 ·rename_i h1
  rw [h1]
 ·rfl
theorem NE {S : Int} {xs : List Mv} {k : Nat} (h : ¬ BA S (xs.take k) = 0) : BA S xs = BA S (xs.take k) := by
 have := E2 S (xs.take k) (xs.drop k)
 rw [List.take_append_drop, if_neg h] at this
 exact this
theorem IL {S : Int} : ∀ {xs : List Mv}, BA S xs = 0 ↔ ∀ m ∈ xs, m.err S = 0
 | [] => by simp [BA]
 | x :: xs => by
  rw [BA]
  by_cases h : x.err S = 0
  ·rw [if_pos h, IL]
   simp [h]
  ·rw [if_neg h]
   simp [h]
theorem Mv.err_ok {S : Int} {m : Mv} : m.err S = 0 ↔ (BD m.name = true ∧ Ch m.name = false) ∧ m.frm.length ≤ 4 ∧ m.frm.all (inS S) = true ∧ inS S m.to_ = true := by
 unfold Mv.err
 by_cases h1 : BD m.name = true ∧ Ch m.name = false
 ·rw [if_pos h1]
  by_cases h2 : 4 < m.frm.length
  ·rw [if_pos h2]
   constructor
   ·intro h; cases h
   ·intro h; omega
  ·rw [if_neg h2]
   by_cases h3 : m.frm.all (inS S) = true ∧ inS S m.to_ = true
   ·rw [if_pos h3]
    exact ⟨fun _ => ⟨h1, by omega, h3⟩, fun _ => rfl⟩
   ·rw [if_neg h3]
    constructor
    ·intro h; cases h
    ·intro h; exact absurd h.2.2 h3
 ·rw [if_neg h1]
  constructor
  ·intro h; cases h
  ·intro h; exact absurd h.1 h1
theorem Au.may_ok {a : Au} {S M : Int} : a.may S M = 0 ↔ (0 ≤ a.states ∧ a.states ≤ S ∧ a.moves.length ≤ M) ∧ (∀ m ∈ a.moves, m.err a.states = 0) ∧ a.last.all (inS a.states) = true := by
 unfold Au.may
 by_cases h1 : a.states < 0 ∨ S < a.states ∨ M < a.moves.length
 ·rw [if_pos h1]
  constructor
  ·intro h; cases h
  ·intro h; omega
 ·rw [if_neg h1, ← IL]
  by_cases h2 : BA a.states a.moves = 0
  ·rw [if_pos h2]
   by_cases h3 : a.last.all (inS a.states) = true
   ·rw [if_pos h3]
    exact ⟨fun _ => ⟨by omega, h2, h3⟩, fun _ => rfl⟩
   ·rw [if_neg h3]
    constructor
    ·intro h; cases h
    ·intro h; exact absurd h.2.2 h3
  ·rw [if_neg h2]
   constructor
   ·intro h; exact absurd h h2
   ·intro h; exact absurd h.2.1 h2
theorem BK {S s : Int} : inS S s = true ↔ 0 ≤ s ∧ s < S := by simp [inS]
def Be : List (List Bool) → List Int → Bool
 | b :: bs, s :: ss => b.getD s.toNat false && Be bs ss
 | [], [] => true
 | _, _ => false
def Mv.fits (m : Mv) (n : ByteArray) (below : List (List Bool)) : Bool := decide (m.name = n) && Be below m.frm
def Bw (n : ByteArray) (below : List (List Bool)) (out : List Bool) (m : Mv) : List Bool := if m.fits n below = true then out.set m.to_.toNat true else out
def Au.ending (a : Au) (n : ByteArray) (below : List (List Bool)) : List Bool := a.moves.foldl (Bw n below) (List.replicate a.states.toNat false)
mutual
def Au.ends (a : Au) : Tm → List Bool
 | .mk n xs => a.ending n (a.endsL xs)
def Au.endsL (a : Au) : List Tm → List (List Bool)
 | [] => []
 | t :: ts => a.ends t :: a.endsL ts
end
theorem Au.ends_eq (a : Au) (t : Tm) : a.ends t = a.ending t.name (a.endsL t.args) := by cases t; rfl
theorem Au.endsL_eq (a : Au) : ∀ ts : List Tm, a.endsL ts = ts.map a.ends
 | [] => rfl
 | t :: ts => by rw [Au.endsL, Au.endsL_eq a ts]; rfl
def Au.acc (a : Au) (t : Tm) : Bool := a.last.any fun s => (a.ends t).getD s.toNat false
theorem Dn (n : ByteArray) (below : List (List Bool)) (out : List Bool) (m : Mv) : (Bw n below out m).length = out.length := by
 unfold Bw
 split <;> simp
theorem EH (n : ByteArray) (below : List (List Bool)) : ∀ (ms : List Mv) (out : List Bool), (ms.foldl (Bw n below) out).length = out.length
 | [], _ => rfl
 | m :: ms, out => by rw [List.foldl_cons, EH n below ms, Dn]
theorem Au.ending_length (a : Au) (n : ByteArray) (below : List (List Bool)) : (a.ending n below).length = a.states.toNat := by
 unfold Au.ending
 rw [EH]
 simp
theorem Au.ends_length (a : Au) (t : Tm) : (a.ends t).length = a.states.toNat := by rw [Au.ends_eq, Au.ending_length]
theorem KT (n : ByteArray) (below : List (List Bool)) (i : Nat) : ∀ (ms : List Mv) (out : List Bool), i < out.length → (ms.foldl (Bw n below) out).getD i false = (out.getD i false || ms.any fun m => m.fits n below && decide (m.to_.toNat = i))
 | [], out, h => by simp
 | m :: ms, out, h => by
  rw [List.foldl_cons, KT n below i ms _ (by rw [Dn]; exact h), List.any_cons, ← Bool.or_assoc]
  congr 1
  unfold Bw
  by_cases hf : m.fits n below = true
  ·rw [if_pos hf, hf, Bool.true_and]
   by_cases he : m.to_.toNat = i
   ·subst he
    simp [List.getD_eq_getElem?_getD, h]
   ·simp [List.getD_eq_getElem?_getD, List.getElem?_set_ne he, he]
  ·rw [if_neg hf]
   have : m.fits n below = false := by simpa using hf
   rw [this]
   simp
theorem Au.ends_get (a : Au) (t : Tm) (i : Nat) (h : i < a.states.toNat) : (a.ends t).getD i false = a.moves.any fun m => m.fits t.name (a.endsL t.args) && decide (m.to_.toNat = i) := by
 rw [Au.ends_eq]
 unfold Au.ending
 rw [KT _ _ _ _ _ (by simpa using h)]
 simp [List.getD_eq_getElem?_getD, h]
structure Au.Good (a : Au) : Prop where
 states : 0 ≤ a.states
 to_ : ∀ m ∈ a.moves, 0 ≤ m.to_ ∧ m.to_ < a.states
 frm : ∀ m ∈ a.moves, ∀ s ∈ m.frm, 0 ≤ s ∧ s < a.states
 last : ∀ s ∈ a.last, 0 ≤ s ∧ s < a.states
theorem Au.may_good {a : Au} {S M : Int} (h : a.may S M = 0) : a.Good := by
 obtain ⟨h1, h2, h3⟩ := Au.may_ok.1 h
 refine ⟨h1.1, fun m hm => ?_, fun m hm s hs => ?_, fun s hs => ?_⟩
 ·exact BK.1 (Mv.err_ok.1 (h2 m hm)).2.2.2
 ·exact BK.1 (List.all_eq_true.1 (Mv.err_ok.1 (h2 m hm)).2.2.1 s hs)
 ·exact BK.1 (List.all_eq_true.1 h3 s hs)
theorem Fc : ∀ {bs : List (List Bool)} {ss : List Int}, Be bs ss = true → ss.length = bs.length
 | [], [], _ => rfl
 | [], _ :: _, h => by simp [Be] at h
 | _ :: _, [], h => by simp [Be] at h
 | b :: bs, s :: ss, h => by
  simp only [Be, Bool.and_eq_true] at h
  simp [Fc h.2]

set_option maxRecDepth 100000
def B6 : IR :=
 (.seq (.ops [.i 2 (.mov (.c (.one (.full []))))]) (.seq (.seq (.ops [.m 3 0, .i 4 (.eqN false (.t 3))]) (.cond (.t 4) (.seq (.ops [.i 2 (.mov (.c (.one (.full []))))]) .ret) .skip)) (.seq (.ops [.i 5 (.buildFlat []), .m 6 0, .i 7 (.append false 3 1 8 (.t 5) (.t 6)), .m 2 7]) .ret)))
theorem Dd : OkF Try.prog 49 8 [] B6 [.t 2] := .of Try.func49 rfl rfl (by kernel_rfl) rfl
def BP : IR :=
 (.seq (.ops [.i 4 (.mov (.c (.one (.st (.bool false)))))]) (.seq (.ops [.m 5 0, .m 6 1, .i 7 (.callS 87 [.t 5, .t 6]), .i 8 (.bin .geq (.t 7) (.n 0)), .m 4 8]) .ret))
theorem CP : OkF Try.prog 71 9 [7] BP [.t 4] := .of Try.func71 rfl rfl (by kernel_rfl) rfl
def Bb : IR :=
 (.seq (.ops [.i 4 (.mov (.n 0))]) (.seq (.seq (.ops [.m 6 0, .i 7 (.len false (.t 6)), .i 8 (.mov (.n 0))]) (.block 0 (.loop (.seq (.ops [.i 9 (.bin .lss (.t 8) (.t 7))]) (.seq (.cond (.t 9) .skip (.exit 0)) (.seq (.block 1 (.seq (.ops [.m 10 8, .m 5 10]) (.seq (.ops [.m 11 1, .m 12 0, .m 13 5, .i 14 (.indexAddr 1 (.t 12) (.t 13)), .l 15 14, .i 16 (.callV (.t 11) [.t 15])]) (.cond (.t 16) (.seq (.ops [.m 17 5, .m 4 17]) .ret) .skip)))) (.ops [.i 18 (.bin .add (.t 8) (.n 1)), .m 8 18]))))))) (.seq (.ops [.i 4 (.mov (.c (.one (.st (.int .i64 (-1))))))]) .ret)))
theorem Cq : OkF Try.prog 87 19 [] Bb [.t 4] := .of Try.func87 rfl rfl (by kernel_rfl) rfl
def DB : IR :=
 (.seq (.ops [.i 3 (.mov (.c (.one (.st (.bool false)))))]) (.seq (.ops [.m 4 0, .i 5 (.bin .lss (.t 4) (.n 0)), .m 6 5, .mk (some 7) (some (6, false)) (.mov (.t 0)) .no, .mk (some 8) (some (6, false)) (.fieldAddr 0 (.t 1)) .no, .mk (some 9) (some (6, false)) (.load false 1 (.t 8)) .no, .mk (some 10) (some (6, false)) (.bin .geq (.t 7) (.t 9)) .no, .i 11 (.pick (.t 6) (.c (.one (.st (.bool true)))) (.t 10)), .m 3 11]) .ret))
theorem Fj : OkF Try.prog 72 12 [] DB [.t 3] := .of Try.func72 rfl rfl (by kernel_rfl) rfl
def BW : IR :=
 (.seq (.ops [.i 3 (.box 25 (.t 0)), .i 6 (.mov (.n 0))]) (.seq (.seq (.ops [.f 11 0 3, .l 12 11, .i 13 (.bin .lss (.t 12) (.n 0)), .m 14 13, .mk (some 15) (some (14, false)) (.fieldAddr 0 (.t 3)) .no, .mk (some 16) (some (14, false)) (.load false 1 (.t 15)) .no, .mk (some 17) (some (14, false)) (.mov (.t 1)) .no, .mk (some 18) (some (14, false)) (.bin .gtr (.t 16) (.t 17)) .no, .i 19 (.pick (.t 14) (.c (.one (.st (.bool true)))) (.t 18)), .m 20 19, .mk (some 21) (some (20, false)) (.fieldAddr 1 (.t 3)) .no, .mk (some 22) (some (20, false)) (.load false 1 (.t 21)) .no, .mk (some 23) (some (20, false)) (.len false (.t 22)) .no, .mk (some 24) (some (20, false)) (.mov (.t 2)) .no, .mk (some 25) (some (20, false)) (.bin .gtr (.t 23) (.t 24)) .no, .i 26 (.pick (.t 20) (.c (.one (.st (.bool true)))) (.t 25))]) (.cond (.t 26) (.seq (.ops [.i 6 (.mov (.n 3))]) .ret) .skip)) (.seq (.seq (.ops [.f 27 1 3, .l 28 27, .i 29 (.len false (.t 28)), .i 30 (.mov (.n 0))]) (.block 0 (.loop (.seq (.ops [.i 31 (.bin .lss (.t 30) (.t 29))]) (.seq (.cond (.t 31) .skip (.exit 0)) (.seq (.block 1 (.seq (.ops [.i 32 (.indexAddr 3 (.t 28) (.t 30)), .L 33 3 32, .i 8 (.alloc 46 [.st (.str (ByteArray.mk (#[]))), .full [], .st (.int .i64 0)]), .s 3 8 33]) (.seq (.seq (.ops [.f 34 0 8, .l 35 34, .i 36 (.call 69 [.t 35]), .i 37 (.un .not (.t 36)), .m 38 37, .mk (some 39) (some (38, false)) (.fieldAddr 0 (.t 8)) .no, .mk (some 40) (some (38, false)) (.load false 1 (.t 39)) .no, .mk (some 41) (some (38, false)) (.call 70 [.t 40]) .no, .i 42 (.pick (.t 38) (.c (.one (.st (.bool true)))) (.t 41))]) (.cond (.t 42) (.seq (.ops [.i 6 (.mov (.n 1))]) .ret) .skip)) (.seq (.seq (.ops [.f 43 1 8, .l 44 43, .i 45 (.len false (.t 44)), .i 46 (.bin .gtr (.t 45) (.n 4))]) (.cond (.t 46) (.seq (.ops [.i 6 (.mov (.n 3))]) .ret) .skip)) (.seq (.ops [.f 47 1 8, .l 48 47, .mk (some 49) none (.callN 49 [.t 48]) (.keeps [8, 8]), .mk (some 50) none (.fieldAddr 2 (.t 8)) (.onb 8), .mk (some 51) none (.load false 1 (.t 50)) (.onb 8), .i 52 (.buildFlat [.t 51]), .i 53 (.append false 3 1 8 (.t 49) (.t 52)), .i 54 (.len false (.t 53)), .i 55 (.mov (.n 0))]) (.block 2 (.loop (.seq (.ops [.i 56 (.bin .lss (.t 55) (.t 54))]) (.seq (.cond (.t 56) .skip (.exit 2)) (.seq (.block 3 (.seq (.ops [.i 57 (.indexAddr 1 (.t 53) (.t 55)), .l 58 57, .m 10 58]) (.seq (.ops [.m 59 10, .i 60 (.bin .lss (.t 59) (.n 0)), .m 61 60, .mk (some 62) (some (61, false)) (.mov (.t 10)) .no, .mk (some 63) (some (61, false)) (.fieldAddr 0 (.t 3)) .no, .mk (some 64) (some (61, false)) (.load false 1 (.t 63)) .no, .mk (some 65) (some (61, false)) (.bin .geq (.t 62) (.t 64)) .no, .i 66 (.pick (.t 61) (.c (.one (.st (.bool true)))) (.t 65))]) (.cond (.t 66) (.seq (.ops [.i 6 (.mov (.n 10))]) .ret) .skip)))) (.ops [.i 67 (.bin .add (.t 55) (.n 1)), .m 55 67]))))))))))) (.ops [.i 68 (.bin .add (.t 30) (.n 1)), .m 30 68]))))))) (.seq (.seq (.ops [.f 69 2 3, .l 70 69, .i 71 (.makeFunc 72 [.t 3]), .i 72 (.callS 71 [.t 70, .t 71])]) (.cond (.t 72) (.seq (.ops [.i 6 (.mov (.n 10))]) .ret) .skip)) (.seq (.ops [.i 6 (.mov (.n 0))]) .ret)))))
theorem By : OkF Try.prog 56 73 [20000049, 72] BW [.t 6] := .of Try.func56 rfl rfl (by kernel_rfl) rfl
def Ep : IR :=
 (.seq (.ops [.i 1 (.box 25 (.t 0)), .i 2 (.mov (.n 0))]) (.seq (.ops [.L 3 3 1, .i 4 (.call 56 [.t 3, .n 8, .n 40]), .m 2 4]) .ret))
theorem H2 : OkF Try.prog 34 5 [] Ep [.t 2] := .of Try.func34 rfl rfl (by kernel_rfl) rfl
def Di : IR :=
 (.seq (.ops [.i 2 (.box 25 (.t 0)), .i 3 (.box 25 (.t 1)), .i 4 (.mov (.n 0))]) (.seq (.seq (.ops [.L 6 3 2, .i 7 (.call 34 [.t 6]), .m 5 7]) (.seq (.ops [.m 8 5, .i 9 (.bin .neq (.t 8) (.n 0))]) (.cond (.t 9) (.seq (.ops [.m 10 5, .m 4 10]) .ret) .skip))) (.seq (.ops [.L 11 3 3, .i 12 (.call 34 [.t 11]), .m 4 12]) .ret)))
theorem Fm : OkF Try.prog 29 13 [] Di [.t 4] := .of Try.func29 rfl rfl (by kernel_rfl) rfl

def EK : IR :=
 (.seq (.ops [.i 2 (.mov (.c (.one (.st (.bool false)))))]) (.seq (.ops [.m 3 0, .i 4 (.bin .geq (.t 3) (.c (.one (.st (.int .u8 97))))), .m 5 4, .mk (some 6) (some (5, true)) (.mov (.t 0)) .no, .mk (some 7) (some (5, true)) (.bin .leq (.t 6) (.c (.one (.st (.int .u8 122))))) .no, .i 8 (.pick (.t 5) (.t 7) (.c (.one (.st (.bool false))))), .m 9 8, .mk (some 10) (some (9, false)) (.mov (.t 0)) .no, .mk (some 11) (some (9, false)) (.bin .geq (.t 10) (.c (.one (.st (.int .u8 65))))) .no, .mk (some 12) (some (9, false)) (.mov (.t 11)) .no, .mk (some 13) (some (12, true)) (.mov (.t 0)) .no, .mk (some 14) (some (12, true)) (.bin .leq (.t 13) (.c (.one (.st (.int .u8 90))))) .no, .mk (some 15) (some (9, false)) (.pick (.t 12) (.t 14) (.c (.one (.st (.bool false))))) .no, .i 16 (.pick (.t 9) (.c (.one (.st (.bool true)))) (.t 15)), .m 17 16, .mk (some 18) (some (17, false)) (.mov (.t 0)) .no, .mk (some 19) (some (17, false)) (.bin .geq (.t 18) (.c (.one (.st (.int .u8 48))))) .no, .mk (some 20) (some (17, false)) (.mov (.t 19)) .no, .mk (some 21) (some (20, true)) (.mov (.t 0)) .no, .mk (some 22) (some (20, true)) (.bin .leq (.t 21) (.c (.one (.st (.int .u8 57))))) .no, .mk (some 23) (some (17, false)) (.pick (.t 20) (.t 22) (.c (.one (.st (.bool false))))) .no, .i 24 (.pick (.t 17) (.c (.one (.st (.bool true)))) (.t 23)), .m 2 24]) .ret))
theorem Hd : OkF Try.prog 86 25 [] EK [.t 2] := .of Try.func86 rfl rfl (by kernel_rfl) rfl
def CA : IR :=
 (.seq (.ops [.i 2 (.mov (.c (.one (.st (.bool false)))))]) (.seq (.seq (.ops [.m 4 0, .i 5 (.len true (.t 4)), .i 6 (.bin .lss (.t 5) (.n 1)), .m 7 6, .mk (some 8) (some (7, false)) (.mov (.t 0)) .no, .mk (some 9) (some (7, false)) (.len true (.t 8)) .no, .mk (some 10) (some (7, false)) (.bin .gtr (.t 9) (.n 8)) .no, .i 11 (.pick (.t 7) (.c (.one (.st (.bool true)))) (.t 10)), .m 12 11, .mk (some 13) (some (12, false)) (.mov (.t 0)) .no, .mk (some 14) (some (12, false)) (.indexStr (.t 13) (.n 0)) .no, .mk (some 15) (some (12, false)) (.bin .geq (.t 14) (.c (.one (.st (.int .u8 48))))) .no, .mk (some 16) (some (12, false)) (.mov (.t 15)) .no, .mk (some 17) (some (16, true)) (.mov (.t 0)) .no, .mk (some 18) (some (16, true)) (.indexStr (.t 17) (.n 0)) .no, .mk (some 19) (some (16, true)) (.bin .leq (.t 18) (.c (.one (.st (.int .u8 57))))) .no, .mk (some 20) (some (12, false)) (.pick (.t 16) (.t 19) (.c (.one (.st (.bool false))))) .no, .i 21 (.pick (.t 12) (.c (.one (.st (.bool true)))) (.t 20))]) (.cond (.t 21) (.seq (.ops [.i 2 (.mov (.c (.one (.st (.bool false)))))]) .ret) .skip)) (.seq (.seq (.ops [.m 22 0, .i 23 (.len true (.t 22)), .i 24 (.mov (.n 0))]) (.block 0 (.loop (.seq (.ops [.i 25 (.bin .lss (.t 24) (.t 23))]) (.seq (.cond (.t 25) .skip (.exit 0)) (.seq (.block 1 (.seq (.ops [.m 26 24, .m 3 26]) (.seq (.ops [.m 27 0, .m 28 3, .i 29 (.indexStr (.t 27) (.t 28)), .i 30 (.call 86 [.t 29]), .i 31 (.un .not (.t 30))]) (.cond (.t 31) (.seq (.ops [.i 2 (.mov (.c (.one (.st (.bool false)))))]) .ret) .skip)))) (.ops [.i 32 (.bin .add (.t 24) (.n 1)), .m 24 32]))))))) (.seq (.ops [.i 2 (.mov (.c (.one (.st (.bool true)))))]) .ret))))
theorem Cn : OkF Try.prog 69 33 [] CA [.t 2] := .of Try.func69 rfl rfl (by kernel_rfl) rfl
def CV : IR :=
 (.seq (.ops [.i 2 (.mov (.c (.one (.st (.bool false)))))]) (.seq (.ops [.m 3 0, .i 4 (.bin .neq (.t 3) (.c (.one (.st (.str (ByteArray.mk (#[]))))))), .m 5 4, .mk (some 6) (some (5, true)) (.mov (.t 0)) .no, .mk (some 7) (some (5, true)) (.indexStr (.t 6) (.n 0)) .no, .mk (some 8) (some (5, true)) (.bin .geq (.t 7) (.c (.one (.st (.int .u8 65))))) .no, .i 9 (.pick (.t 5) (.t 8) (.c (.one (.st (.bool false))))), .m 10 9, .mk (some 11) (some (10, true)) (.mov (.t 0)) .no, .mk (some 12) (some (10, true)) (.indexStr (.t 11) (.n 0)) .no, .mk (some 13) (some (10, true)) (.bin .leq (.t 12) (.c (.one (.st (.int .u8 90))))) .no, .i 14 (.pick (.t 10) (.t 13) (.c (.one (.st (.bool false))))), .m 2 14]) .ret))
theorem DJ : OkF Try.prog 70 15 [] CV [.t 2] := .of Try.func70 rfl rfl (by kernel_rfl) rfl

theorem FV (s : ByteArray) (k : Nat) : II s k = A3 s k := rfl
theorem Px {s : ByteArray} (h : ¬ s.size = 0) : ¬ s = ⟨#[]⟩ := fun e => h (by rw [e]; rfl)
theorem O2 {s : ByteArray} (h : s.size = 0) : s = ⟨#[]⟩ := by
 have := ByteArray.size_eq_zero_iff.1 h
 exact this
theorem PH (n : Int) (h0 : 0 ≤ n) : A0 Try.prog 86 [.one (.st (.int .u8 n))] (Bk (B_ n)) := by
 refine Hd.ac fun C hC => ?_
 unfold EK
 have hc : (97 ≤ n ∧ n ≤ 122) ∨ (122 < n) ∨ (n < 97 ∧ 65 ≤ n ∧ n ≤ 90) ∨ (n < 97 ∧ 90 < n) ∨ (n < 65 ∧ 48 ≤ n ∧ n ≤ 57) ∨ (n < 65 ∧ 57 < n) ∨ (n < 48) := by omega
 rcases hc with h | h | h | h | h | h | h
 ·have h1 : 97 ≤ n := h.1
  have h2 : n ≤ 122 := h.2
  repeat' with_reducible first | refine W ?_ | refine Z0 ?_ | ((first | refine Wo fun K hK => ?_ | refine Wq ?_ | refine Wr ?_); (try simp only [go_sem, fN, seval, eT, iR, h1, h2]); (repeat refine Ai ?_); (try (refine hK _ ?_; clear hK K)))
  simp only [go_sem, fN, seval, A6, AS.result, AO, AR, Av, B_, h1, h2]
  try simp
 ·have h1 : 97 ≤ n := by omega
  have h2 : ¬ n ≤ 122 := by omega
  have h3 : 65 ≤ n := by omega
  have h4 : ¬ n ≤ 90 := by omega
  have h5 : 48 ≤ n := by omega
  have h6 : ¬ n ≤ 57 := by omega
  repeat' with_reducible first | refine W ?_ | refine Z0 ?_ | ((first | refine Wo fun K hK => ?_ | refine Wq ?_ | refine Wr ?_); (try simp only [go_sem, fN, seval, eT, iR, h1, h2, h3, h4, h5, h6]); (repeat refine Ai ?_); (try (refine hK _ ?_; clear hK K)))
  simp only [go_sem, fN, seval, A6, AS.result, AO, AR, Av, B_, h1, h2, h3, h4, h5, h6]
  try simp
 ·have h1 : ¬ 97 ≤ n := by omega
  have h3 : 65 ≤ n := by omega
  have h4 : n ≤ 90 := by omega
  repeat' with_reducible first | refine W ?_ | refine Z0 ?_ | ((first | refine Wo fun K hK => ?_ | refine Wq ?_ | refine Wr ?_); (try simp only [go_sem, fN, seval, eT, iR, h1, h3, h4]); (repeat refine Ai ?_); (try (refine hK _ ?_; clear hK K)))
  simp only [go_sem, fN, seval, A6, AS.result, AO, AR, Av, B_, h1, h3, h4]
  try simp
 ·have h1 : ¬ 97 ≤ n := by omega
  have h3 : 65 ≤ n := by omega
  have h4 : ¬ n ≤ 90 := by omega
  have h5 : 48 ≤ n := by omega
  have h6 : ¬ n ≤ 57 := by omega
  repeat' with_reducible first | refine W ?_ | refine Z0 ?_ | ((first | refine Wo fun K hK => ?_ | refine Wq ?_ | refine Wr ?_); (try simp only [go_sem, fN, seval, eT, iR, h1, h3, h4, h5, h6]); (repeat refine Ai ?_); (try (refine hK _ ?_; clear hK K)))
  simp only [go_sem, fN, seval, A6, AS.result, AO, AR, Av, B_, h1, h3, h4, h5, h6]
  try simp
 ·have h1 : ¬ 97 ≤ n := by omega
  have h3 : ¬ 65 ≤ n := by omega
  have h5 : 48 ≤ n := by omega
  have h6 : n ≤ 57 := by omega
  repeat' with_reducible first | refine W ?_ | refine Z0 ?_ | ((first | refine Wo fun K hK => ?_ | refine Wq ?_ | refine Wr ?_); (try simp only [go_sem, fN, seval, eT, iR, h1, h3, h5, h6]); (repeat refine Ai ?_); (try (refine hK _ ?_; clear hK K)))
  simp only [go_sem, fN, seval, A6, AS.result, AO, AR, Av, B_, h1, h3, h5, h6]
  try simp
 ·have h1 : ¬ 97 ≤ n := by omega
  have h3 : ¬ 65 ≤ n := by omega
  have h5 : 48 ≤ n := by omega
  have h6 : ¬ n ≤ 57 := by omega
  repeat' with_reducible first | refine W ?_ | refine Z0 ?_ | ((first | refine Wo fun K hK => ?_ | refine Wq ?_ | refine Wr ?_); (try simp only [go_sem, fN, seval, eT, iR, h1, h3, h5, h6]); (repeat refine Ai ?_); (try (refine hK _ ?_; clear hK K)))
  simp only [go_sem, fN, seval, A6, AS.result, AO, AR, Av, B_, h1, h3, h5, h6]
  try simp
 ·have h1 : ¬ 97 ≤ n := by omega
  have h3 : ¬ 65 ≤ n := by omega
  have h5 : ¬ 48 ≤ n := by omega
  repeat' with_reducible first | refine W ?_ | refine Z0 ?_ | ((first | refine Wo fun K hK => ?_ | refine Wq ?_ | refine Wr ?_); (try simp only [go_sem, fN, seval, eT, iR, h1, h3, h5]); (repeat refine Ai ?_); (try (refine hK _ ?_; clear hK K)))
  simp only [go_sem, fN, seval, A6, AS.result, AO, AR, Av, B_, h1, h3, h5]
  try simp
theorem E9 (s : ByteArray) : A0 Try.prog 70 [NC s] (Bk (Ch s)) := by
 by_cases h0 : s.size = 0
 ·have := O2 h0
  subst this
  refine DJ.ac fun C hC => ?_
  unfold CV
  repeat' with_reducible first | refine W ?_ | refine Z0 ?_ | ((first | refine Wo fun K hK => ?_ | refine Wq ?_ | refine Wr ?_); (try simp only [go_sem, fN, seval, eT, iR]); (repeat refine Ai ?_); (try (refine hK _ ?_; clear hK K)))
  simp only [go_sem, fN, seval, A6, AS.result, AO, AR, Av]
  rfl
 ·have h1 := Px h0
  have h2 : 0 < s.size := by omega
  refine DJ.ac fun C hC => ?_
  unfold CV
  by_cases h3 : 65 ≤ A3 s 0 <;> by_cases h4 : A3 s 0 ≤ 90
  all_goals
   repeat' with_reducible first | refine W ?_ | refine Z0 ?_ | ((first | refine Wo fun K hK => ?_ | refine Wq ?_ | refine Wr ?_); (try simp only [go_sem, fN, seval, eT, iR, h1, h2, FV, h3, h4]); (repeat refine Ai ?_); (try (refine hK _ ?_; clear hK K)))
   simp only [go_sem, fN, seval, A6, AS.result, AO, AR, Av, Ch, h3, h4, h2]
   try simp
theorem Mi (s : ByteArray) (h1 : 1 ≤ s.size) (h8 : s.size ≤ 8) (hd : ¬ (48 ≤ A3 s 0 ∧ A3 s 0 ≤ 57)) : BD s = B3 s s.size := by
 unfold BD
 have : (decide (48 ≤ A3 s 0) && decide (A3 s 0 ≤ 57)) = false := by
  rw [Bool.and_eq_false_iff]
  simp
  omega
 rw [this]
 simp [h1, h8]
theorem I6 (s : ByteArray) : A0 Try.prog 69 [NC s] (Bk (BD s)) := by
 by_cases h0 : s.size < 1
 ·have e : BD s = false := by simp [BD]; omega
  rw [e]
  have h0' : (s.size : Int) < 1 := by omega
  refine Cn.ac fun C hC => ?_
  unfold CA
  repeat' with_reducible first | refine W ?_ | refine Z0 ?_ | ((first | refine Wo fun K hK => ?_ | refine Wq ?_ | refine Wr ?_); (try simp only [go_sem, fN, seval, eT, iR, h0']); (repeat refine Ai ?_); (try (refine hK _ ?_; clear hK K)))
  with_reducible refine Wp ?_
  simp only [go_sem, fN, seval, true_implies, false_implies, implies_true, dT, dF, nL, h0']
  (try with_reducible refine iC ?_)
  repeat' with_reducible first | refine W ?_ | refine Z0 ?_ | ((first | refine Wo fun K hK => ?_ | refine Wq ?_ | refine Wr ?_); (try simp only [go_sem, fN, seval, eT, iR]); (repeat refine Ai ?_); (try (refine hK _ ?_; clear hK K)))
  simp only [go_sem, fN, seval, A6, AS.result, AO, AR, Av]
 have h0' : ¬ (s.size : Int) < 1 := by omega
 by_cases h8 : 8 < s.size
 ·have e : BD s = false := by simp [BD]; omega
  rw [e]
  have h8' : (8 : Int) < s.size := by omega
  refine Cn.ac fun C hC => ?_
  unfold CA
  repeat' with_reducible first | refine W ?_ | refine Z0 ?_ | ((first | refine Wo fun K hK => ?_ | refine Wq ?_ | refine Wr ?_); (try simp only [go_sem, fN, seval, eT, iR, h0', h8']); (repeat refine Ai ?_); (try (refine hK _ ?_; clear hK K)))
  with_reducible refine Wp ?_
  simp only [go_sem, fN, seval, true_implies, false_implies, implies_true, dT, dF, nL, h0']
  (try with_reducible refine iC ?_)
  repeat' with_reducible first | refine W ?_ | refine Z0 ?_ | ((first | refine Wo fun K hK => ?_ | refine Wq ?_ | refine Wr ?_); (try simp only [go_sem, fN, seval, eT, iR]); (repeat refine Ai ?_); (try (refine hK _ ?_; clear hK K)))
  simp only [go_sem, fN, seval, A6, AS.result, AO, AR, Av]
 have h8' : ¬ (8 : Int) < s.size := by omega
 have hpos : 0 < s.size := by omega
 by_cases hd : 48 ≤ A3 s 0 ∧ A3 s 0 ≤ 57
 ·have e : BD s = false := by simp [BD, hd.1, hd.2]
  rw [e]
  refine Cn.ac fun C hC => ?_
  unfold CA
  repeat' with_reducible first | refine W ?_ | refine Z0 ?_ | ((first | refine Wo fun K hK => ?_ | refine Wq ?_ | refine Wr ?_); (try simp only [go_sem, fN, seval, eT, iR, h0', h8', hpos, FV, hd.1, hd.2]); (repeat refine Ai ?_); (try (refine hK _ ?_; clear hK K)))
  with_reducible refine Wp ?_
  simp only [go_sem, fN, seval, true_implies, false_implies, implies_true, dT, dF, nL, h0']
  (try with_reducible refine iC ?_)
  repeat' with_reducible first | refine W ?_ | refine Z0 ?_ | ((first | refine Wo fun K hK => ?_ | refine Wq ?_ | refine Wr ?_); (try simp only [go_sem, fN, seval, eT, iR]); (repeat refine Ai ?_); (try (refine hK _ ?_; clear hK K)))
  simp only [go_sem, fN, seval, A6, AS.result, AO, AR, Av]
 rw [Mi s (by omega) (by omega) hd]
 have hd2 : (48 ≤ A3 s 0 ∧ ¬ A3 s 0 ≤ 57) ∨ (¬ 48 ≤ A3 s 0) := by omega
 refine Cn.ac fun C hC => ?_
 unfold CA
 have h57 : 48 ≤ A3 s 0 → ¬ A3 s 0 ≤ 57 := fun h h' => hd ⟨h, h'⟩
 by_cases h48 : 48 ≤ A3 s 0
 all_goals
  simp only [h48, true_implies, false_implies] at h57
  repeat' with_reducible first | refine W ?_ | refine Z0 ?_ | ((first | refine Wo fun K hK => ?_ | refine Wq ?_ | refine Wr ?_); (try simp only [go_sem, fN, seval, eT, iR, h0', h8', hpos, FV, h48, h57]); (repeat refine Ai ?_); (try (refine hK _ ?_; clear hK K)))
  with_reducible refine Wp ?_
  simp only [go_sem, fN, seval, true_implies, false_implies, implies_true, dT, dF, nL, h0']
  (try with_reducible refine iC ?_)
  repeat' with_reducible first | refine W ?_ | refine Z0 ?_ | ((first | refine Wo fun K hK => ?_ | refine Wq ?_ | refine Wr ?_); (try simp only [go_sem, fN, seval, eT, iR]); (repeat refine Ai ?_); (try (refine hK _ ?_; clear hK K)))
  refine IWP.loop (fun m x => ∃ k, k ≤ s.size ∧ m = s.size - k ∧ B3 s k = true ∧ x.env 0 = NC s ∧ x.env 23 = AP s.size ∧ x.env 24 = AP k) s.size ⟨0, Nat.zero_le _, rfl, rfl, rfl, rfl, rfl⟩ ?_
  rintro m ⟨env, S⟩ ⟨k, hk, rfl, hl, e0, e23, e24⟩
  simp only at e0 e23 e24
  repeat' with_reducible first | refine W ?_ | refine Z0 ?_ | ((first | refine Wo fun K hK => ?_ | refine Wq ?_ | refine Wr ?_); (try simp only [go_sem, fN, seval, eT, iR, e0, e23, e24]); (repeat refine Ai ?_); (try (refine hK _ ?_; clear hK K)))
  with_reducible refine Wp ?_
  simp only [go_sem, fN, seval, true_implies, false_implies, implies_true, dT, dF, nL, e0, e23, e24]
  (try with_reducible refine iC ?_)
  refine ⟨fun hlt => ?_, fun hge => ?_⟩
  ·have hlt' : k < s.size := by omega
   repeat' (first | (with_reducible first | refine W ?_ | refine Z0 ?_ | ((first | refine Wo fun K hK => ?_ | refine Wq ?_ | refine Wr ?_); (try simp only [go_sem, fN, seval, eT, iR, e0, e23, e24, hlt', FV]); (repeat refine Ai ?_); (try (refine hK _ ?_; clear hK K)))) | refine Cg _ (PH _ (JB s k).1) ?_)
   with_reducible refine Wp ?_
   simp only [go_sem, fN, seval, true_implies, false_implies, implies_true, dT, dF, nL]
   (try with_reducible refine iC ?_)
   refine ⟨fun hn => ?_, fun hn => ?_⟩
   ·repeat' with_reducible first | refine W ?_ | refine Z0 ?_ | ((first | refine Wo fun K hK => ?_ | refine Wq ?_ | refine Wr ?_); (try simp only [go_sem, fN, seval, eT, iR]); (repeat refine Ai ?_); (try (refine hK _ ?_; clear hK K)))
    simp only [go_sem, fN, seval, A6, AS.result, AO, AR, Av]
    rw [JC s k hlt' (by simpa using hn)]
   ·repeat' with_reducible first | refine W ?_ | refine Z0 ?_ | ((first | refine Wo fun K hK => ?_ | refine Wq ?_ | refine Wr ?_); (try simp only [go_sem, fN, seval, eT, iR, e0, e23, e24]); (repeat refine Ai ?_); (try (refine hK _ ?_; clear hK K)))
    refine AI ⟨s.size - (k + 1), by omega, k + 1, by omega, rfl, ?_, ?_⟩
    ·rw [HW s k hlt', hl]
     simpa using hn
    ·simp only [go_sem, fN, seval, eT, iR, e0, e23, e24]
     congr 3
  ·repeat' with_reducible first | refine W ?_ | refine Z0 ?_ | ((first | refine Wo fun K hK => ?_ | refine Wq ?_ | refine Wr ?_); (try simp only [go_sem, fN, seval, eT, iR]); (repeat refine Ai ?_); (try (refine hK _ ?_; clear hK K)))
   simp only [go_sem, fN, seval, A6, AS.result, AO, AR, Av]
   rw [show s.size = k by omega, hl]
mutual
def Tm.beq : Tm → Tm → Bool
 | .mk n xs, .mk m ys => decide (n = m) && Tm.beqL xs ys
def Tm.beqL : List Tm → List Tm → Bool
 | [], [] => true
 | x :: xs, y :: ys => x.beq y && Tm.beqL xs ys
 | _, _ => false
end
def Tm.nil : Tm := .mk ⟨#[]⟩ []

set_option maxHeartbeats 1000000
def Ax (m : Mv) : List SV := [.str m.name, .list (m.frm.map Bo), .int .i64 m.to_]
abbrev aAu (a : Au) : AV := .agg [.st (.int .i64 a.states), .st (.list (a.moves.map Ax)), .st (.list (a.last.map Bo))]
theorem Lf {ts : List Mv} : ∀ x ∈ ts.map Ax, x.length = 3 := by
 intro x hx
 obtain ⟨a, _, rfl⟩ := List.mem_map.1 hx
 rfl
theorem IJ {ts : List Int} : ∀ x ∈ ts.map Bo, x.length = 1 := by
 intro x hx
 obtain ⟨a, _, rfl⟩ := List.mem_map.1 hx
 rfl
theorem Nm {S : AA} {a : Au} (h : (aAu a).known S) : a.moves.length ≤ 9223372036854775807 ∧ a.last.length ≤ 9223372036854775807 ∧ ∀ m ∈ a.moves, m.frm.length ≤ 9223372036854775807 := by
 have h1 := h (.st (.list (a.moves.map Ax))) (by simp)
 have h2 := h (.st (.list (a.last.map Bo))) (by simp)
 simp only [AC.known, SV.known, List.length_map] at h1 h2
 rw [DM] at h1 h2
 refine ⟨h1.1, h2.1, fun m hm => ?_⟩
 have h3 := Dv.1 (C7.1 h1.2 (Ax m) (List.mem_map.2 ⟨m, hm, rfl⟩)) (.list (m.frm.map Bo)) (by simp [Ax])
 simp only [SV.known, List.length_map] at h3
 rw [DM] at h3
 exact h3.1
theorem EY {α : Type} {p : α → Bool} {xs : List α} {k : Nat} {a : α} (ha : xs[k]? = some a) (h : (xs.take k).all p = true) : (xs.take (k + 1)).all p = p a := by
 rw [Ay ha, List.all_append, h]
 simp
theorem M4 {α : Type} {p : α → Bool} {xs : List α} {k : Nat} {a : α} (ha : xs[k]? = some a) (h : (xs.take k).any p = false) : (xs.take (k + 1)).any p = p a := by
 rw [Ay ha, List.any_append, h]
 simp
theorem PZ {α : Type} {p : α → Bool} {xs : List α} {a : α} (ha : a ∈ xs) (h : p a = false) : xs.all p = false := by
 rw [List.all_eq_false]
 exact ⟨a, ha, by simp [h]⟩
theorem PM {S : Int} {m : Mv} (h : ¬ BD m.name = true) : m.err S = 1 := if_neg (fun h' => h h'.1)
theorem Pu {S : Int} {m : Mv} (h : Ch m.name = true) : m.err S = 1 := if_neg (fun h' => by rw [h] at h'; exact absurd h'.2 (by decide))
theorem P6 {S : Int} {m : Mv} (h1 : BD m.name = true) (h2 : ¬ Ch m.name = true) (h : 4 < m.frm.length) : m.err S = 3 := by
 unfold Mv.err
 rw [if_pos ⟨h1, by simpa using h2⟩, if_pos h]
theorem Pt {S : Int} {m : Mv} (h1 : BD m.name = true) (h2 : ¬ Ch m.name = true) (h3 : ¬ 4 < m.frm.length) {s : Int} (hs : s ∈ m.frm) (h : s < 0 ∨ S ≤ s) : m.err S = 10 := by
 unfold Mv.err
 rw [if_pos ⟨h1, by simpa using h2⟩, if_neg h3, if_neg]
 intro h'
 have := BK.1 (List.all_eq_true.1 h'.1 s hs)
 omega
theorem QR {S : Int} {m : Mv} (h1 : BD m.name = true) (h2 : ¬ Ch m.name = true) (h3 : ¬ 4 < m.frm.length) (h : m.to_ < 0 ∨ S ≤ m.to_) : m.err S = 10 := by
 unfold Mv.err
 rw [if_pos ⟨h1, by simpa using h2⟩, if_neg h3, if_neg]
 intro h'
 have := BK.1 h'.2
 omega
theorem Nq {S : Int} {m : Mv} (h1 : BD m.name = true) (h2 : ¬ Ch m.name = true) (h3 : ¬ 4 < m.frm.length) (h4 : m.frm.all (inS S) = true) (h5 : inS S m.to_ = true) : m.err S = 0 := by
 unfold Mv.err
 rw [if_pos ⟨h1, by simpa using h2⟩, if_neg h3, if_pos ⟨h4, h5⟩]
theorem EO {a : Au} {S M : Int} {k : Nat} {m : Mv} (h0 : ¬ (a.states < 0 ∨ S < a.states ∨ M < a.moves.length)) (hm : a.moves[k]? = some m) (ht : BA a.states (a.moves.take k) = 0) {e : Int} (he : m.err a.states = e) (hne : e ≠ 0) : a.may S M = e := by
 have h1 : ¬ BA a.states (a.moves.take (k + 1)) = 0 := by
  rw [ER hm ht, he]
  exact hne
 have h2 := NE h1
 rw [ER hm ht, he] at h2
 unfold Au.may
 rw [if_neg h0, h2, if_neg hne]
theorem PI {a : Au} {S M : Int} (h0 : ¬ (a.states < 0 ∨ S < a.states ∨ M < a.moves.length)) (ht : BA a.states a.moves = 0) : a.may S M = if a.last.all (inS a.states) = true then 0 else 10 := by
 unfold Au.may
 rw [if_neg h0, if_pos ht]
theorem MN {S s : Int} (h : s < 0 ∨ S ≤ s) : inS S s = false := by
 cases hh : inS S s with
 | false => rfl
 | true =>
  have := BK.1 hh
  omega
theorem N9 {S s : Int} (h1 : ¬ s < 0) (h2 : ¬ S ≤ s) : inS S s = true := BK.2 (by omega)

theorem PR (l : List Int) (hl : l.length ≤ 1000000) : Gj Try.prog 49 [EM l] 3 1 (l.map Bo) := by
 unfold Gj
 rw [List.length_map]
 refine Dd.acS fun hS C hC => ?_
 unfold B6
 by_cases h0 : l.length = 0
 ·have hl : l = [] := List.eq_nil_of_length_eq_zero h0
  subst hl
  repeat' with_reducible first | refine W ?_ | refine Z0 ?_ | ((first | refine Wo fun K hK => ?_ | refine Wp ?_ | refine Wq ?_ | refine Wr ?_); (try simp only [go_sem, fN, seval, eT, iR, dT, dF, nL]); (repeat refine Ai ?_); (try (refine hK _ ?_; clear hK K)); try refine iC ?_)
  refine ⟨?_, ?_⟩
  ·repeat' with_reducible first | refine W ?_ | refine Z0 ?_ | ((first | refine Wo fun K hK => ?_ | refine Wp ?_ | refine Wq ?_ | refine Wr ?_); (try simp only [go_sem, fN, seval, eT, iR, dT, dF, nL]); (repeat refine Ai ?_); (try (refine hK _ ?_; clear hK K)); try refine iC ?_)
   refine Ls (AZ.own (C := C) 2 30 3 1 (xs := []) rfl rfl (by simp) (by omega)) ?_
   exact QM (mu := false) trivial 30 (by decide) rfl (fun i hi => by show AF _ _ _ _ = _; rw [AD _ (by omega)]; rfl) rfl
  ·repeat' with_reducible first | refine W ?_ | refine Z0 ?_ | ((first | refine Wo fun K hK => ?_ | refine Wp ?_ | refine Wq ?_ | refine Wr ?_); (try simp only [go_sem, fN, seval, eT, iR, dT, dF, nL]); (repeat refine Ai ?_); (try (refine hK _ ?_; clear hK K)); try refine iC ?_)
   exact QM (mu := false) trivial 7 (by decide) rfl (fun i hi => by show AF _ _ _ _ = _; rw [AD _ (by omega)]; rfl) rfl
 ·have hb : l.length * 8 ≤ 140737488355328 := by omega
  repeat' with_reducible first | refine W ?_ | refine Z0 ?_ | ((first | refine Wo fun K hK => ?_ | refine Wp ?_ | refine Wq ?_ | refine Wr ?_); (try simp only [go_sem, fN, seval, eT, iR, h0, hb, dT, dF, nL]); (repeat refine Ai ?_); (try (refine hK _ ?_; clear hK K)); try refine iC ?_)
  exact QM (mu := false) trivial 7 (by decide) rfl (fun i hi => by show AF _ _ _ _ = _; rw [AD _ (by omega)]; rfl) rfl

end Go.Proofs.Ytkegjgodjigjfaa
