/-
  Part 5 of the texts. Conditions: none.
-/
import Derived.Test.YtkegjgodjigjfaaAuK4
namespace Go.Proofs.Ytkegjgodjigjfaa
open Go Go.RowKit
set_option linter.unusedVariables false
set_option maxHeartbeats 400000
def Kl (hints : List Nat) (ks : List Ins) : Nat → Nat → Nat
 | 0, t => t
 | f + 1, t => match hints.find? fun m => m / 10000 == 1000 + t with
  | some m => m % 10000
  | none => match ks.find? fun k => k.dst == some t with
   | some k => match k.kd with
    | .mov (.t u) => Kl hints ks f u
    | .fieldAddr _ (.t u) => Kl hints ks f u
    | .nilCheck (.t u) => Kl hints ks f u
    | _ => t
   | none => t
def O7 (ops : List Oper) (ks : List Ins) : List (Nat × Nat) :=
 (List.range ops.length).flatMap fun i => (List.range i).filterMap fun j => match ks[j]?, ks[i]? with
  | some x, some y => if x.indep y || F1 ops ops.length j i then none else some (j, i)
  | _, _ => none
def Kq (hints : List Nat) (ks : List Ins) (i : Nat) : Option Nat := match ks[i]? with
 | some k => match k.kd with
  | .indexAddr _ (.t u) _ => (hints.find? fun m => m / 10000 == 1000 + u).map (· % 10000)
  | .indexAddr _ _ _ => none
  | kd => match kd.ptrOpd with
   | some (.t u) => some (Kl hints ks ks.length u)
   | _ => none
 | none => none
def SM (hints : List Nat) (ks : List Ins) (conf : List (Nat × Nat)) (i : Nat) : Tag :=
 if conf.any fun p => p.1 == i || p.2 == i then match ks[i]? with
  | some k => match k.kd with
   | .load _ _ _ | .store _ _ _ | .fieldAddr _ _ | .nilCheck _ | .indexAddr _ _ _ => match Kq hints ks i with
    | some id => .onb id
    | none => .no
   | .callS _ _ | .callV _ _ | .callN _ _ | .append _ _ _ _ _ _ => .keeps (conf.filterMap fun p => if p.1 == i then Kq hints ks p.2 else if p.2 == i then Kq hints ks p.1 else none)
   | _ => .no
  | none => .no
 else .no
def RI (mu : List Nat) (ops : List Oper) (ks : List Ins) : List Ins := OO (SM (mu.filter fun m => 10000000 ≤ m) ks (O7 ops ks)) 0 ks
def A5 (P : Program) (n : Nat) (mu : List Nat) : Code → Option IR
 | .skip => some .skip
 | .region _ ops draw => match I0 P n mu ops.toList ops.toList with
  | some ks => if draw then if P.follows .mixedOrders && K3 ops.toList ks then some (.ops ks) else if P.follows .mixedOrders && K3 ops.toList (RI mu ops.toList ks) then some (.ops (RI mu ops.toList ks)) else none else some (.ops ks)
  | none => none
 | .seq x y => match A5 P n mu x, A5 P n mu y with
  | some x', some y' => some (.seq x' y')
  | _, _ => none
 | .cond c x y => match AK n c, A5 P n mu x, A5 P n mu y with
  | some c', some x', some y' => some (.cond c' x' y')
  | _, _, _ => none
 | .block id x => (A5 P n mu x).map (.block id)
 | .loop x => (A5 P n mu x).map .loop
 | .rangeFunc g ps x y => match AK n g, A5 P n mu x, A5 P n mu y with
  | some g', some x', some y' => if ps.toList.all (fun p => decide (p < n)) then some (.rangeF g' ps.toList x' y') else none
  | _, _, _ => none
 | .exit id => some (.exit id)
 | .ret => some .ret
 | _ => none
inductive AX where
 | normal
 | exit (id : Nat)
 | ret
 | pan (v : Value)
def SR (C : Ctx) (Q : AX → AS → Prop) : Exit → Act → World → Prop
 | .normal, a, w => ∃ s, Q .normal s ∧ A4 C s a w
 | .exit id, a, w => ∃ s, Q (.exit id) s ∧ A4 C s a w
 | .ret, a, w => ∃ s, Q .ret s ∧ A4 C s a w
 | .panic ch, a, w => ∃ s v, (Q (.pan v) s ∧ ch = [{ v := v, recovered := false }]) ∧ A4 C s a w
 | _, _, _ => False
def IWP (P : Program) (C : Ctx) (mu : List Nat) (x : IR) (Q : AX → AS → Prop) (s : AS) : Prop :=
 ∀ c, A5 P C.n mu c = some x → ∀ a w, A4 C s a w → c.wpIn (fen C.ro) 0 P (SR C Q) a w
def Ae (C : Ctx) (s s' : AS) : Prop := ∀ a w, A4 C s a w → A4 C s' a w
def AX.then (K : AS → Prop) (Q : AX → AS → Prop) : AX → AS → Prop
 | .normal, s => K s
 | e, s => Q e s
def AX.inBlock (id : Nat) (Q : AX → AS → Prop) : AX → AS → Prop
 | .exit id', s => if id' = id then Q .normal s else Q (.exit id') s
 | e, s => Q e s
section
variable {P : Program} {C : Ctx} {mu : List Nat} {Q Q' : AX → AS → Prop} {s s' : AS} {x y : IR}
theorem IWP.mono (h : IWP P C mu x Q s) (hq : ∀ e s, Q e s → Q' e s) : IWP P C mu x Q' s := fun c hc a w hH => wpIn_mono (h c hc a w hH) fun e a' w' he => by
 cases e <;> first | exact he | (obtain ⟨s1, v, h1, h2⟩ := he; exact ⟨s1, v, ⟨hq _ _ h1.1, h1.2⟩, h2⟩) | (obtain ⟨s1, h1, h2⟩ := he; exact ⟨s1, hq _ _ h1, h2⟩)
theorem IWP.ghost (hg : Ae C s s') (h : IWP P C mu x Q s') : IWP P C mu x Q s := fun c hc a w hH => h c hc a w (hg a w hH)
theorem Ae.refl (C : Ctx) (s : AS) : Ae C s s := fun _ _ h => h
theorem Ae.trans {s1 s2 s3 : AS} (h : Ae C s1 s2) (k : Ae C s2 s3) : Ae C s1 s3 := fun a w hH => k a w (h a w hH)
theorem IWP.skip (h : Q .normal s) : IWP P C mu .skip Q s := fun c hc a w hH => by
 cases c <;> simp only [A5] at hc <;> first | exact wpIn_skip ⟨s, h, hH⟩ | (exfalso; revert hc; (repeat' split) <;> simp)
theorem IWP.ops {l : List Ins} (h : Run P l s (Q .normal)) : IWP P C mu (.ops l) Q s := fun c hc a w hH => by
 cases c <;> simp only [A5] at hc
 case region id ops draw =>
  split at hc
  ·rename_i ks e1
   obtain ⟨σ, ι, R⟩ := hH
   cases draw with
   | true =>
    simp only [if_true] at hc
    split at hc
    ·rename_i h1
     cases hc
     simp only [Bool.and_eq_true] at h1
     exact IW h1.1 e1 (LY.refl _) h1.2 R h fun s' a' w' hs hh => ⟨s', hs, hh⟩
    ·split at hc
     ·rename_i h1
      cases hc
      simp only [Bool.and_eq_true] at h1
      exact IW h1.1 e1 (Mg _ 0 _) h1.2 R h fun s' a' w' hs hh => ⟨s', hs, hh⟩
     ·cases hc
   | false =>
    simp only [Bool.false_eq_true, if_false, Option.some.injEq, IR.ops.injEq] at hc
    subst hc
    exact La e1 R h fun s' a' w' hs hh => ⟨s', hs, hh⟩
  ·cases hc
 all_goals (exfalso; revert hc; (repeat' split) <;> simp)
def MA (P : Program) (C : Ctx) (mu : List Nat) (y : IR) (Q : AX → AS → Prop) : AX → AS → Prop := AX.then (IWP P C mu y Q) Q
theorem E1 (h : IWP P C mu y Q s) : MA P C mu y Q .normal s := h
theorem Js {id : Nat} (h : Q (.exit id) s) : MA P C mu y Q (.exit id) s := h
theorem LS (h : Q .ret s) : MA P C mu y Q .ret s := h
theorem El {id : Nat} (h : Q .normal s) : AX.inBlock id Q .normal s := h
theorem GB {id : Nat} (h : Q .normal s) : AX.inBlock id Q (.exit id) s := by simp only [AX.inBlock, if_true]; exact h
theorem GS {id id' : Nat} (hne : id' ≠ id) (h : Q (.exit id') s) : AX.inBlock id Q (.exit id') s := by simp only [AX.inBlock, hne, if_false]; exact h
theorem HO {id : Nat} (h : Q .ret s) : AX.inBlock id Q .ret s := h
theorem AE {K : AS → Prop} (h : K s) : AX.then K Q .normal s := h
theorem Jh {K : AS → Prop} {id : Nat} (h : Q (.exit id) s) : AX.then K Q (.exit id) s := h
theorem Le {K : AS → Prop} (h : Q .ret s) : AX.then K Q .ret s := h
theorem IWP.opsK {l : List Ins} (h : ∀ K : AS → Prop, (∀ s, Q .normal s → K s) → Run P l s K) : IWP P C mu (.ops l) Q s := IWP.ops (h _ fun _ h => h)
theorem IWP.seq (h : IWP P C mu x (MA P C mu y Q) s) : IWP P C mu (.seq x y) Q s := fun c hc a w hH => by
 cases c <;> simp only [A5] at hc
 case seq c1 c2 =>
  split at hc
  ·rename_i x' y' e1 e2
   cases hc
   refine wpIn_seq (wpIn_mono (h c1 e1 a w hH) fun e a' w' he => ?_)
   cases e <;> first | exact he | (obtain ⟨s1, h1, h2⟩ := he; exact h1 c2 e2 a' w' h2)
  ·cases hc
 all_goals (exfalso; revert hc; (repeat' split) <;> simp)
theorem IWP.cond {c0 : Opd} (h : match s.ev c0 with | .one (.st (.bool b)) => (b = true → IWP P C mu x Q s) ∧ (b = false → IWP P C mu y Q s) | .one .ubool => IWP P C mu x Q s ∧ IWP P C mu y Q s | _ => False) : IWP P C mu (.cond c0 x y) Q s := fun c hc a w hH => by
 cases c <;> simp only [A5] at hc
 case cond cc c1 c2 =>
  split at hc
  ·rename_i c' x' y' e0 e1 e2
   cases hc
   split at h
   ·rename_i b eb
    obtain ⟨σ, ι, R⟩ := hH
    have rb := R.ev e0
    rw [eb] at rb
    exact wpIn_cond_split (Cb rb) (fun ht => h.1 ht c1 e1 a w ⟨σ, ι, R⟩) (fun ht => h.2 ht c2 e2 a w ⟨σ, ι, R⟩)
   ·rename_i eb
    obtain ⟨σ, ι, R⟩ := hH
    have rb := R.ev e0
    rw [eb] at rb
    obtain ⟨b, hb⟩ := NM rb
    exact wpIn_cond_split hb (fun _ => h.1 c1 e1 a w ⟨σ, ι, R⟩) (fun _ => h.2 c2 e2 a w ⟨σ, ι, R⟩)
   ·exact h.elim
  ·cases hc
 all_goals (exfalso; revert hc; (repeat' split) <;> simp)
theorem IWP.block {id : Nat} (h : IWP P C mu x (AX.inBlock id Q) s) : IWP P C mu (.block id x) Q s := fun c hc a w hH => by
 cases c <;> simp only [A5] at hc
 case block id' c1 =>
  rw [Option.map_eq_some_iff] at hc
  obtain ⟨x', e1, e2⟩ := hc
  cases e2
  refine wpIn_block (wpIn_mono (h c1 e1 a w hH) fun e a' w' he => ?_)
  cases e <;> first | exact he | skip
  case exit id2 =>
   obtain ⟨s1, h1, h2⟩ := he
   simp only [AX.inBlock] at h1
   simp only [Exit.inBlock]
   by_cases e : id2 = id
   ·rw [if_pos e] at h1 ⊢
    exact ⟨s1, h1, h2⟩
   ·rw [if_neg e] at h1 ⊢
    exact ⟨s1, h1, h2⟩
 all_goals (exfalso; revert hc; (repeat' split) <;> simp)
theorem IWP.exit {id : Nat} (h : Q (.exit id) s) : IWP P C mu (.exit id) Q s := fun c hc a w hH => by
 cases c <;> simp only [A5] at hc
 case exit id' =>
  cases hc
  exact wpIn_exit ⟨s, h, hH⟩
 all_goals (exfalso; revert hc; (repeat' split) <;> simp)
theorem IWP.ret (h : Q .ret s) : IWP P C mu .ret Q s := fun c hc a w hH => by
 cases c <;> simp only [A5] at hc
 case ret => exact wpIn_ret ⟨s, h, hH⟩
 all_goals (exfalso; revert hc; (repeat' split) <;> simp)
theorem IWP.loop (Inv : Nat → AS → Prop) (m0 : Nat) (h0 : Inv m0 s) (h : ∀ m s, Inv m s → IWP P C mu x (AX.then (fun s' => ∃ m', m' < m ∧ Inv m' s') Q) s) : IWP P C mu (.loop x) Q s := fun c hc a w hH => by
 cases c <;> simp only [A5] at hc
 case loop c1 =>
  rw [Option.map_eq_some_iff] at hc
  obtain ⟨x', e1, e2⟩ := hc
  cases e2
  have least : ∀ a w, (∃ m s, Inv m s ∧ A4 C s a w) → ∃ m, (∃ s, Inv m s ∧ A4 C s a w) ∧ ∀ m', (∃ s, Inv m' s ∧ A4 C s a w) → m ≤ m' := fun a w ⟨m, s, h1, h2⟩ => by
   have key : ∀ n m, m ≤ n → (∃ s, Inv m s ∧ A4 C s a w) → ∃ m, (∃ s, Inv m s ∧ A4 C s a w) ∧ ∀ m', (∃ s, Inv m' s ∧ A4 C s a w) → m ≤ m' := by
    intro n
    induction n with
    | zero => intro m hm hs; exact ⟨m, hs, fun m' _ => by omega⟩
    | succ n ih =>
     intro m hm hs
     by_cases hex : ∃ m', m' < m ∧ ∃ s, Inv m' s ∧ A4 C s a w
     ·obtain ⟨m', hlt, hs'⟩ := hex
      exact ih m' (by omega) hs'
     ·refine ⟨m, hs, fun m' hs' => ?_⟩
      rcases Nat.lt_or_ge m' m with hlt | hge
      ·exact absurd ⟨m', hlt, hs'⟩ hex
      ·exact hge
   exact key m m (Nat.le_refl _) ⟨s, h1, h2⟩
  open Classical in
  refine wpIn_loop (fun a w => ∃ m s, Inv m s ∧ A4 C s a w) (fun a w => if hx : ∃ m s, Inv m s ∧ A4 C s a w then (least a w hx).choose else 0) ⟨m0, s, h0, hH⟩ fun a w hI => ?_
  obtain ⟨⟨s1, i1, i2⟩, hmin⟩ := (least a w hI).choose_spec
  refine wpIn_mono (h _ s1 i1 c1 e1 a w i2) fun e a' w' he => ?_
  cases e <;> first | exact he | skip
  case normal =>
   obtain ⟨s2, ⟨m', hlt, hinv⟩, hH2⟩ := he
   have hx' : ∃ m s, Inv m s ∧ A4 C s a' w' := ⟨m', s2, hinv, hH2⟩
   refine ⟨hx', ?_⟩
   rw [dif_pos hx', dif_pos hI]
   have := (least a' w' hx').choose_spec.2 m' ⟨s2, hinv, hH2⟩
   omega
 all_goals (exfalso; revert hc; (repeat' split) <;> simp)
end
mutual
def SV.known : SV → Prop
 | .int k n => inR k n
 | .str b => b.size ≤ maxLen
 | .list xs => xs.length ≤ maxLen ∧ SV.knownLL xs
 | _ => True
def SV.knownLL : List (List SV) → Prop
 | [] => True
 | x :: xs => SV.knownL x ∧ SV.knownLL xs
def SV.knownL : List SV → Prop
 | [] => True
 | c :: cs => c.known ∧ SV.knownL cs
end
theorem Fu : ∀ {l : List SV}, SV.knownL l ↔ ∀ c ∈ l, c.known
 | [] => by simp [SV.knownL]
 | c :: cs => by simp [SV.knownL, Fu (l := cs)]
theorem Eh : ∀ {l : List (List SV)}, SV.knownLL l ↔ ∀ x ∈ l, SV.knownL x
 | [] => by simp [SV.knownLL]
 | c :: cs => by simp [SV.knownLL, Eh (l := cs)]
def AC.known (S : AA) : AC → Prop
 | .st c => c.known
 | .full xs => xs.length ≤ maxLen ∧ SV.knownLL xs
 | _ => True
def AV.known (S : AA) : AV → Prop
 | .one c => c.known S
 | .agg cs => ∀ c ∈ cs, c.known S
 | _ => True
theorem Am.known {σ : Sto} {v : Value} {c : SV} (h : Am σ v c) : c.known := by
 induction h with
 | int h => exact h
 | str h => exact h
 | @list p len cap b o w xs c h1 h2 h3 h4 h5 h6 hh h7 h8 ih =>
  refine ⟨by omega, Eh.2 fun x hx => Fu.2 fun y hy => ?_⟩
  obtain ⟨k, hk, rfl⟩ := List.getElem_of_mem hx
  obtain ⟨j, hj, rfl⟩ := List.getElem_of_mem hy
  exact ih k _ j _ (List.getElem?_eq_getElem hk) (List.getElem?_eq_getElem hj)
 | _ => trivial
theorem Ac.known {σ : Sto} {S : AA} {ι : Ao} {v : Value} {c : AC} (h : Ac σ S ι v c) : c.known S := by
 cases h with
 | st h => exact h.known
 | full h => exact h.known
 | _ => trivial
theorem AO.known {σ : Sto} {S : AA} {ι : Ao} {v : Value} {c : AV} (h : AO σ S ι v c) : c.known S := by
 cases h with
 | one h => exact h.known
 | agg h =>
  intro c hc
  obtain ⟨i, hi, rfl⟩ := List.getElem_of_mem hc
  obtain ⟨b, _, hb⟩ := h.get (List.getElem?_eq_getElem hi)
  exact hb.known
 | _ => trivial
theorem IWP.learn {P : Program} {C : Ctx} {mu : List Nat} {Q : AX → AS → Prop} {s : AS} {x : IR} (t : Nat) (ht : t < C.n) (h : (s.env t).known s.S → IWP P C mu x Q s) : IWP P C mu x Q s := fun c hc a w hH => by
 obtain ⟨σ, ι, R⟩ := hH
 exact h (R.env t ht).known c hc a w ⟨σ, ι, R⟩
inductive RV where
 | t (i : Nat)
 | cell (i : Nat) (g : Bool) (n : Nat)
def DL (P : Program) (n : Nat) : List ResultVar → Option (List RV)
 | [] => some []
 | .tmp t :: l => match DL P n l with
  | some r => if t < n then some (.t t :: r) else none
  | none => none
 | .cell t ty :: l => match DL P n l, L2 P ty with
  | some r, some (g, k) => if t < n then some (.cell t g k :: r) else none
  | _, _ => none
def AJ (s : AS) : RV → Option AV
 | .t i => some (s.env i)
 | .cell i g n => match s.env i with
  | .one (.ptr id m k off) => match CQ s.S id m k with
   | some cs => if off + n ≤ cs.length then some (LI g ((cs.drop off).take n)) else none
   | none => none
  | _ => none
def AI (s : AS) : List RV → Option (List AV)
 | [] => some []
 | r :: l => match AJ s r, AI s l with
  | some v, some vs => some (v :: vs)
  | _, _ => none
def AW : List AV → AV
 | [v] => v
 | vs => .tup vs
def AS.result (s : AS) (rs : List RV) : Option AV := match AI s rs with
 | some vs => outV s.S (AW vs)
 | none => none
def IJ (tmps : Array Value) : ResultVar → Sem Value
 | .tmp t => pure (tmps.getD t undef)
 | .cell x t => do loadVar t (← asAddr (tmps.getD x undef))
theorem Nh (fn : Func) (tmps : Array Value) : results fn tmps = (do
  let vs ← fn.results.mapM (IJ tmps)
  pure (if h : vs.size = 1 then vs[0] else .tuple vs)) := rfl
section
variable {P : Program} {C : Ctx} {a : Act} {w : World} {σ : Sto} {ι : Ao} {s : AS}
theorem F7 (R : AM C σ ι s a w) : ∀ {l : List ResultVar} {rs : List RV} {vs : List AV}, DL P C.n l = some rs → AI s rs = some vs →
  ∃ xs : List Value, (l.mapM (IJ a.tmps)).run P w = .ok xs w ∧ AT (AO σ s.S ι) xs vs
 | [], rs, vs, h1, h2 => by
  simp only [DL, Option.some.injEq] at h1
  subst h1
  simp only [AI, Option.some.injEq] at h2
  subst h2
  exact ⟨[], by simp, .nil⟩
 | .tmp t :: l, rs, vs, h1, h2 => by
  simp only [DL] at h1
  split at h1
  ·rename_i r e1
   split at h1
   ·rename_i hlt
    cases h1
    simp only [AI, AJ] at h2
    split at h2
    ·rename_i v vs' e2 e3
     cases h2
     cases e2
     obtain ⟨xs, k1, k2⟩ := F7 R e1 e3
     exact ⟨_ :: xs, by simp [List.mapM_cons, IJ, k1], .cons (R.env t hlt) k2⟩
    ·cases h2
   ·cases h1
  ·cases h1
 | .cell t ty :: l, rs, vs, h1, h2 => by
  simp only [DL] at h1
  split at h1
  ·rename_i r g k e1 e4
   split at h1
   ·rename_i hlt
    cases h1
    simp only [AI] at h2
    split at h2
    ·rename_i v vs' e2 e3
     cases h2
     obtain ⟨xs, k1, k2⟩ := F7 R e1 e3
     simp only [AJ] at e2
     split at e2
     ·rename_i id m kk off e5
      split at e2
      ·rename_i cs e6
       split at e2
       ·rename_i hle
        cases e2
        have rt := R.env t hlt
        rw [e5] at rt
        obtain ⟨b, oo, hex, ys, v2, v3⟩ := R.ptr_cells (AP rt) e6
        have hlen := v3.len
        obtain ⟨dd, i, q1, q2, q3, q4⟩ := Fv e4
        obtain ⟨v, r1, r2⟩ := EK (P := P) (w := w) (b := b) (o := oo + off) (cs := (ys.drop off).take k) q1 q2 (fun j v hj => by
         rw [List.getElem?_take] at hj
         split at hj
         ·rw [List.getElem?_drop] at hj
          rw [Nat.add_assoc]
          exact v2 _ _ hj
         ·cases hj) g q3 (by simp; omega)
        have r1' : (loadVar ty ⟨b, oo + off, none⟩).run P w = .ok v w := by
         simpa [Instr.loadAt, Instr.sureAddr] using r1
        exact ⟨v :: xs, by simp [List.mapM_cons, IJ, hex, asAddr, r1', k1], .cons (Du ((v3.drop off).take k) r2) k2⟩
       ·cases e2
      ·cases e2
     ·cases e2
    ·cases h2
   ·cases h1
  ·cases h1
theorem H7 {S : AA} {fn : Func} {tmps : Array Value} {xs : List Value} {vs : List AV} (k1 : (fn.results.toList.mapM (IJ tmps)).run P w = .ok xs w) (k2 : AT (AO σ S ι) xs vs) : ∃ v, (results fn tmps).run P w = .ok v w ∧ AO σ S ι v (AW vs) := by
 have hl := k2.len
 have hrun : (results fn tmps).run P w = .ok (if h : xs.toArray.size = 1 then xs.toArray[0] else .tuple xs.toArray) w := by
  rw [Nh, Array.mapM_eq_mapM_toList]
  simp [k1]
 refine ⟨_, hrun, ?_⟩
 match xs, vs, k2, hl with
 | [x], [v], k2, _ =>
  cases k2 with
  | cons k2 _ => simpa [AW] using k2
 | [], [], k2, _ => simpa [AW] using AO.tup (σ := σ) (S := S) (ι := ι) (vs := #[]) (ps := []) (fun _ => undef) rfl (by simp) (by simp)
 | x :: y :: xs, v :: v' :: vs, k2, hl =>
  have ht : AW (v :: v' :: vs) = .tup (v :: v' :: vs) := rfl
  rw [ht]
  have hne : ¬ (x :: y :: xs).toArray.size = 1 := by simp
  rw [dif_neg hne]
  refine .tup (fun j => ((x :: y :: xs)[j]?).getD undef) (by simpa using hl) (fun j b hb => ?_) (fun j b hb => ?_)
  ·obtain ⟨a1, h1, _⟩ := k2.get hb
   rw [h1]
   simpa using h1
  ·obtain ⟨a1, h1, h2⟩ := k2.get hb
   rw [h1]
   exact h2
theorem RY (R : AM C σ ι s a w) {fn : Func} {rs : List RV} {r : AV} (h1 : DL P C.n fn.results.toList = some rs) (h2 : s.result rs = some r) : ∃ v, (results fn a.tmps).run P w = .ok v w ∧ AO σ noS noH v r := by
 unfold AS.result at h2
 split at h2
 ·rename_i vs e1
  obtain ⟨xs, k1, k2⟩ := F7 R h1 e1
  obtain ⟨v, v1, v2⟩ := H7 (fn := fn) (tmps := a.tmps) k1 k2
  exact ⟨v, v1, R.outV v2 h2⟩
 ·cases h2
end
def AS.start (xs : List AV) : AS := ⟨fun i => (xs[i]?).getD (.tup []), noS⟩
def Ab (rs : List RV) (r : AV) (e : AX) (s : AS) : Prop := (match e with | .normal => True | .ret => True | _ => False) ∧ s.result rs = some r
theorem II {P : Program} {f : FuncId} {fn : Func} {mu : List Nat} {c : Code} {x : IR} {rs : List RV} {xs : List AV} {r : AV} (hf : P.funcs[f]? = some fn) (hb : fn.body = some c) (hx : A5 P fn.ntmps mu c = some x) (hr : DL P fn.ntmps fn.results.toList = some rs) (hn : xs.length ≤ fn.ntmps)
  (h : ∀ C : Ctx, C.n = fn.ntmps → C.Top → IWP P C mu x (Ab rs r) (AS.start xs)) : Ap P f xs r := by
 intro σ w vs hglob hfit hvs
 have hl := hvs.len
 let C : Ctx := ⟨fn.ntmps, w.heap.size, fun _ => False, σ, w, noS, noH, fun i b h => by simp [noS] at h, hglob, [], none, false⟩
 refine callsIn_wide.1 (callsIn_of_wp_marks (n := 0) hf hb trivial ?_)
 have R : AM C σ noH (AS.start xs) { tmps := vs.toArray ++ Array.replicate (fn.ntmps - vs.toArray.size) undef, defers := [] } w := by
  refine ⟨by simp [C]; omega, fun i hi => ?_, FN, hfit, fun id b h => by simp [AS.start, noS] at h, fun id id' b b' g h => by simp [AS.start, noS] at h, fun id b g h => by simp [AS.start, noS] at h, fun _ _ h => h, fun _ _ _ => rfl, ⟨rfl, rfl, rfl⟩, ⟨Nat.le_refl _, Nat.le_refl _⟩, fun _ _ _ => rfl, Upd.refl _ _⟩
  show AO σ noS noH _ ((xs[i]?).getD (.tup []))
  rw [Array.getD_eq_getD_getElem?]
  by_cases hlt : i < vs.length
  ·rw [Array.getElem?_append_left (by simpa using hlt)]
   obtain ⟨b, hb1, hb2⟩ := hvs.get' (List.getElem?_eq_getElem hlt)
   rw [hb1]
   simpa [hlt] using hb2
  ·rw [Array.getElem?_append_right (by simp; omega), List.getElem?_eq_none (by omega)]
   have hi' : i < fn.ntmps := hi
   rw [Array.getElem?_replicate, if_pos (by simp; omega)]
   exact .tup (fun _ => undef) rfl (by simp) (by simp)
 refine wpIn_mono (h C rfl ⟨rfl, rfl⟩ c hx _ w ⟨σ, noH, R⟩) fun e a' w' he => ?_
 have fin : ∀ s, s.result rs = some r → A4 C s a' w' → LeavesInM Fence.wide 0 P fn a'.tmps (fun e w' => ∃ v σ', e = .returned v ∧ AO σ' noS noH v r ∧ Fit σ' w' ∧ Ext w.heap.size σ σ' ∧ Below w.heap.size w w') a'.defers .returning w' := fun s hs hH => by
  obtain ⟨σ', ι', R1⟩ := hH
  refine R1.leaves (fun h => by cases h) fun a2 w2 R' hd ht => ?_
  obtain ⟨v, v1, v2⟩ := RY R' (fn := fn) hr hs
  exact ⟨v, v1, v, σ', rfl, v2, R'.fit, ⟨R'.ext, fun p hp => R'.old p hp (fun h => h)⟩, ⟨R'.os.1, R'.os.2.1, R'.os.2.2, R'.grown.2, fun k hk => R'.same k hk (fun h => h)⟩⟩
 cases e with
 | normal => obtain ⟨s, h1, h2⟩ := he; exact fin s h1.2 h2
 | ret => obtain ⟨s, h1, h2⟩ := he; exact fin s h1.2 h2
 | exit id => obtain ⟨s, h1, h2⟩ := he; exact h1.1.elim
 | panic ch => obtain ⟨s, v, h1, h2⟩ := he; exact h1.1.1.elim
 | _ => exact he.elim
theorem PC {P : Program} {f : FuncId} {fn : Func} {mu : List Nat} {c : Code} {x : IR} {rs : List RV} {xs : List AV} {r : AV} (hf : P.funcs[f]? = some fn) (hb : fn.body = some c) (hx : A5 P fn.ntmps mu c = some x) (hr : DL P fn.ntmps fn.results.toList = some rs) (hn : xs.length ≤ fn.ntmps)
  (h : ∀ C : Ctx, C.n = fn.ntmps → IWP P C mu x (Ab rs r) (AS.start xs)) : Ap P f xs r := II hf hb hx hr hn fun C h1 _ => h C h1
def JB (C : Ctx) (rs : List RV) (r : AV) (S' : AA) (e : AX) (s : AS) : Prop := (match e with | .normal => True | .ret => True | _ => False) ∧ ∃ s2 s3 r0, Ae C s s2 ∧ (AI s2 rs).map AW = some r0 ∧ (∀ σ ι a w, AM C σ ι s2 a w → ∃ σ' ι', AM C σ' ι' s3 a w ∧ ∀ v, AO σ s2.S ι v r0 → AO σ' s3.S ι' v r) ∧ s3.S = S' ∧ Al S'
def AS.startS (xs : List AV) (S : AA) : AS := ⟨fun i => (xs[i]?).getD (.tup []), S⟩
theorem Lc {P : Program} {f : FuncId} {fn : Func} {mu : List Nat} {c : Code} {x : IR} {rs : List RV} {xs : List AV} {S : AA} {r : AV} {S' : AA} (hf : P.funcs[f]? = some fn) (hb : fn.body = some c) (hx : A5 P fn.ntmps mu c = some x) (hr : DL P fn.ntmps fn.results.toList = some rs) (hn : xs.length ≤ fn.ntmps)
  (h : Al S → ∀ C : Ctx, C.n = fn.ntmps → C.Top → IWP P C mu x (JB C rs r S') (AS.startS xs S)) : BO P f xs S r S' := by
 intro hclean σ w vs ι hglob hfit hown hvs
 have hl := hvs.len
 let C : Ctx := ⟨fn.ntmps, w.heap.size, fun g => ¬ Bn S ι g, σ, w, S, ι, hclean, hglob, [], none, false⟩
 refine callsIn_wide.1 (callsIn_of_wp_marks (n := 0) hf hb trivial ?_)
 have R : AM C σ ι (AS.startS xs S) { tmps := vs.toArray ++ Array.replicate (fn.ntmps - vs.toArray.size) undef, defers := [] } w := by
  refine ⟨by simp [C]; omega, fun i hi => ?_, FN, hfit, hown.1, hown.2, fun id b g h hg => .inr (fun hno => hno id b h hg), fun _ _ h => h, fun _ _ _ => rfl, ⟨rfl, rfl, rfl⟩, ⟨Nat.le_refl _, Nat.le_refl _⟩, fun _ _ _ => rfl, Upd.refl _ _⟩
  show AO σ S ι _ ((xs[i]?).getD (.tup []))
  rw [Array.getD_eq_getD_getElem?]
  by_cases hlt : i < vs.length
  ·rw [Array.getElem?_append_left (by simpa using hlt)]
   obtain ⟨b, hb1, hb2⟩ := hvs.get' (List.getElem?_eq_getElem hlt)
   rw [hb1]
   simpa [hlt] using hb2
  ·rw [Array.getElem?_append_right (by simp; omega), List.getElem?_eq_none (by omega)]
   have hi' : i < fn.ntmps := hi
   rw [Array.getElem?_replicate, if_pos (by simp; omega)]
   exact .tup (fun _ => undef) rfl (by simp) (by simp)
 refine wpIn_mono (h hclean C rfl ⟨rfl, rfl⟩ c hx _ w ⟨σ, ι, R⟩) fun e a' w' he => ?_
 have fin : ∀ s, (∃ s2 s3 r0, Ae C s s2 ∧ (AI s2 rs).map AW = some r0 ∧ (∀ σ ι a w, AM C σ ι s2 a w → ∃ σ' ι', AM C σ' ι' s3 a w ∧ ∀ v, AO σ s2.S ι v r0 → AO σ' s3.S ι' v r) ∧ s3.S = S' ∧ Al S') → A4 C s a' w' → LeavesInM Fence.wide 0 P fn a'.tmps (fun e w' => ∃ v σ' ι', e = .returned v ∧ Al S' ∧ Upd S ι S' ι' ∧ D0 σ' S' ι' w' ∧ AO σ' S' ι' v r ∧ Fit σ' w' ∧ (∀ p x, σ p = some x → σ' p = some x) ∧
   (∀ p : Addr, p.block < w.heap.size → Bn S ι p.block → σ' p = σ p) ∧ (w'.os = w.os ∧ w'.tape = w.tape ∧ w'.output = w.output) ∧ w.heap.size ≤ w'.heap.size ∧
   (∀ g, g < w.heap.size → Bn S ι g → w'.heap[g]? = w.heap[g]?) ∧ (∀ id b g, S' id = some b → (ι' id).g = some g → w.heap.size ≤ g ∨ ¬ Bn S ι g)) a'.defers .returning w' := fun s ⟨s2, s3, r0, hg, hres, hlow, hS, hc⟩ hH => by
  obtain ⟨σ1, ι1, R1⟩ := hg _ _ hH
  refine R1.leaves (fun h => by cases h) fun a2 w2 R2 hd ht => ?_
  subst hS
  rw [Option.map_eq_some_iff] at hres
  obtain ⟨vs2, e1, rfl⟩ := hres
  obtain ⟨xs2, k1, k2⟩ := F7 R2 hr e1
  obtain ⟨v, v1, v20⟩ := H7 (fn := fn) (tmps := a2.tmps) k1 k2
  obtain ⟨σ', ι', R', hv'⟩ := hlow _ _ _ _ R2
  have v2 := hv' v v20
  exact ⟨v, v1, v, σ', ι', rfl, hc, R'.upd, ⟨R'.blk, R'.inj⟩, v2, R'.fit, R'.ext, fun p h1 h2 => R'.old p h1 (fun h => h h2), R'.os, R'.grown.2, fun g h1 h2 => R'.same g h1 (fun h => h h2), fun id b g h1 h2 => R'.base id b g h1 h2⟩
 cases e with
 | normal => obtain ⟨s, h1, h2⟩ := he; exact fin s h1.2 h2
 | ret => obtain ⟨s, h1, h2⟩ := he; exact fin s h1.2 h2
 | exit id => obtain ⟨s, h1, h2⟩ := he; exact h1.1.elim
 | panic ch => obtain ⟨s, v, h1, h2⟩ := he; exact h1.1.1.elim
 | _ => exact he.elim
theorem Nm {P : Program} {f : FuncId} {fn : Func} {mu : List Nat} {c : Code} {x : IR} {rs : List RV} {xs : List AV} {S : AA} {r : AV} {S' : AA} (hf : P.funcs[f]? = some fn) (hb : fn.body = some c) (hx : A5 P fn.ntmps mu c = some x) (hr : DL P fn.ntmps fn.results.toList = some rs) (hn : xs.length ≤ fn.ntmps)
  (h : Al S → ∀ C : Ctx, C.n = fn.ntmps → IWP P C mu x (JB C rs r S') (AS.startS xs S)) : BO P f xs S r S' := Lc hf hb hx hr hn fun h0 C h1 _ => h h0 C h1
def Qh (C : Ctx) (rs : List RV) (Post : AV → AA → Prop) (e : AX) (s : AS) : Prop := ∃ r S', Post r S' ∧ JB C rs r S' e s
theorem PQ {P : Program} {fn : Func} {C : Ctx} {rs : List RV} {Post : AV → AA → Prop} {e : AX} {s : AS} {a' : Act} {w' : World} {S : AA} {ι : Ao} (hC : C.N = C.w0.heap.size) (hG : ∀ g, C.G g ↔ ¬ Bn S ι g) (hS0 : C.S0 = S) (hι0 : C.ι0 = ι) (hds : C.ds = []) (hr : DL P C.n fn.results.toList = some rs) (h : Qh C rs Post e s) (hH : A4 C s a' w') :
  LeavesInM Fence.wide 0 P fn a'.tmps (Kt C.σ0 S ι C.w0 Post) a'.defers .returning w' := by
 obtain ⟨r, S', hP, _, s2, s3, r0, hg, hres, hlow, hS, hc⟩ := h
 obtain ⟨σ1, ι1, R1⟩ := hg _ _ hH
 refine R1.leaves (fun h => by cases h) fun a2 w2 R2 hd ht => ?_
 subst hS
 rw [Option.map_eq_some_iff] at hres
 obtain ⟨vs2, e1, rfl⟩ := hres
 obtain ⟨xs2, k1, k2⟩ := F7 R2 hr e1
 obtain ⟨v, v1, v20⟩ := H7 (fn := fn) (tmps := a2.tmps) k1 k2
 obtain ⟨σ', ι', R', hv'⟩ := hlow _ _ _ _ R2
 have v2 := hv' v v20
 rw [hds]
 have hupd := R'.upd
 rw [hS0, hι0] at hupd
 exact ⟨v, v1, v, r, s3.S, σ', ι', rfl, hP, hc, hupd, ⟨R'.blk, R'.inj⟩, v2, R'.fit, R'.ext, fun p h1 h2 => R'.old p (by rw [hC]; exact h1) (fun h => (hG _).1 h h2), R'.os, R'.grown.2, fun g h1 h2 => R'.same g (by rw [hC]; exact h1) (fun h => (hG _).1 h h2), fun id b g h1 h2 => (R'.base id b g h1 h2).imp (fun h => by rw [← hC]; exact h) fun h => (hG _).1 h⟩
theorem NR {P : Program} {f : FuncId} {fn : Func} {mu : List Nat} {c : Code} {x : IR} {rs : List RV} {xs : List AV} {S : AA} {Post : AV → AA → Prop} (hf : P.funcs[f]? = some fn) (hb : fn.body = some c) (hx : A5 P fn.ntmps mu c = some x) (hr : DL P fn.ntmps fn.results.toList = some rs) (hn : xs.length ≤ fn.ntmps)
  (h : Al S → ∀ C : Ctx, C.n = fn.ntmps → C.Top → IWP P C mu x (Qh C rs Post) (AS.startS xs S)) : FE P f xs S Post := by
 intro hclean σ w vs ι hglob hfit hown hvs
 have hl := hvs.len
 let C : Ctx := ⟨fn.ntmps, w.heap.size, fun g => ¬ Bn S ι g, σ, w, S, ι, hclean, hglob, [], none, false⟩
 refine callsIn_wide.1 (callsIn_of_wp_marks (n := 0) hf hb trivial ?_)
 have R : AM C σ ι (AS.startS xs S) { tmps := vs.toArray ++ Array.replicate (fn.ntmps - vs.toArray.size) undef, defers := [] } w := by
  refine ⟨by simp [C]; omega, fun i hi => ?_, FN, hfit, hown.1, hown.2, fun id b g h hg => .inr (fun hno => hno id b h hg), fun _ _ h => h, fun _ _ _ => rfl, ⟨rfl, rfl, rfl⟩, ⟨Nat.le_refl _, Nat.le_refl _⟩, fun _ _ _ => rfl, Upd.refl _ _⟩
  show AO σ S ι _ ((xs[i]?).getD (.tup []))
  rw [Array.getD_eq_getD_getElem?]
  by_cases hlt : i < vs.length
  ·rw [Array.getElem?_append_left (by simpa using hlt)]
   obtain ⟨b, hb1, hb2⟩ := hvs.get' (List.getElem?_eq_getElem hlt)
   rw [hb1]
   simpa [hlt] using hb2
  ·rw [Array.getElem?_append_right (by simp; omega), List.getElem?_eq_none (by omega)]
   have hi' : i < fn.ntmps := hi
   rw [Array.getElem?_replicate, if_pos (by simp; omega)]
   exact .tup (fun _ => undef) rfl (by simp) (by simp)
 refine wpIn_mono (h hclean C rfl ⟨rfl, rfl⟩ c hx _ w ⟨σ, ι, R⟩) fun e a' w' he => ?_
 have fin : ∀ e s, Qh C rs Post e s → A4 C s a' w' → LeavesInM Fence.wide 0 P fn a'.tmps (Kt σ S ι w Post) a'.defers .returning w' := fun e s h1 h2 => PQ (C := C) rfl (fun g => Iff.rfl) rfl rfl rfl hr h1 h2
 cases e with
 | normal => obtain ⟨s, h1, h2⟩ := he; exact fin _ s h1 h2
 | ret => obtain ⟨s, h1, h2⟩ := he; exact fin _ s h1 h2
 | exit id => obtain ⟨s, ⟨r, S', hP, h1⟩, h2⟩ := he; exact h1.1.elim
 | panic ch => obtain ⟨s, v, ⟨⟨r, S', hP, h1⟩, _⟩, h2⟩ := he; exact h1.1.elim
 | _ => exact he.elim
structure OkF (P : Program) (f n : Nat) (mu : List Nat) (x : IR) (rs : List RV) : Prop where
 ok : ∃ fn c, P.funcs[f]? = some fn ∧ fn.body = some c ∧ fn.ntmps = n ∧ A5 P n mu c = some x ∧ DL P n fn.results.toList = some rs
section
variable {P : Program} {f n : Nat} {mu : List Nat} {x : IR} {rs : List RV}
theorem OkF.of {fn : Func} (hf : P.funcs[f]? = some fn) (hb : fn.body.isSome = true) (hn : fn.ntmps = n) (hx : A5 P n mu (fn.body.getD .skip) = some x) (hr : DL P n fn.results.toList = some rs) : OkF P f n mu x rs := by
 obtain ⟨c, hc⟩ := Option.isSome_iff_exists.1 hb
 rw [hc] at hx
 exact ⟨fn, c, hf, hc, hn, hx, hr⟩
theorem OkF.ac (o : OkF P f n mu x rs) {xs : List AV} {r : AV} (h : ∀ C : Ctx, C.n = n → IWP P C mu x (Ab rs r) (AS.start xs)) (hn : xs.length ≤ n := by exact Nat.le_of_ble_eq_true rfl) : Ap P f xs r := by
 obtain ⟨fn, c, hf, hb, rfl, hx, hr⟩ := o.ok
 exact PC hf hb hx hr hn h
theorem OkF.acT (o : OkF P f n mu x rs) {xs : List AV} {r : AV} (h : ∀ C : Ctx, C.n = n → C.Top → IWP P C mu x (Ab rs r) (AS.start xs)) (hn : xs.length ≤ n := by exact Nat.le_of_ble_eq_true rfl) : Ap P f xs r := by
 obtain ⟨fn, c, hf, hb, rfl, hx, hr⟩ := o.ok
 exact II hf hb hx hr hn h
theorem OkF.acR (o : OkF P f n mu x rs) {xs : List AV} {S : AA} {Post : AV → AA → Prop} (h : Al S → ∀ C : Ctx, C.n = n → C.Top → IWP P C mu x (Qh C rs Post) (AS.startS xs S)) (hn : xs.length ≤ n := by exact Nat.le_of_ble_eq_true rfl) : FE P f xs S Post := by
 obtain ⟨fn, c, hf, hb, rfl, hx, hr⟩ := o.ok
 exact NR hf hb hx hr hn h
theorem OkF.acS (o : OkF P f n mu x rs) {xs : List AV} {S S' : AA} {r : AV} (h : Al S → ∀ C : Ctx, C.n = n → IWP P C mu x (JB C rs r S') (AS.startS xs S)) (hn : xs.length ≤ n := by exact Nat.le_of_ble_eq_true rfl) : BO P f xs S r S' := by
 obtain ⟨fn, c, hf, hb, rfl, hx, hr⟩ := o.ok
 exact Nm hf hb hx hr hn h
end

set_option linter.unusedSimpArgs false
mutual
def AC.clear (ds : List Nat) : AC → Bool
 | .row id _ => !ds.contains id
 | .part id _ _ => !ds.contains id
 | .rest id _ _ => !ds.contains id
 | .ptr id _ _ _ => !ds.contains id
 | .mptr id => !ds.contains id
 | .yld id => !ds.contains id
 | .ubool => true
 | .fn _ caps => AC.clears ds caps
 | .st _ => true
 | .full _ => true
 | .eptr _ => true
 | .any => true
def AC.clears (ds : List Nat) : List AC → Bool
 | [] => true
 | c :: cs => c.clear ds && AC.clears ds cs
end
theorem Ip {ds : List Nat} : ∀ {l : List AC}, AC.clears ds l = true → ∀ a ∈ l, a.clear ds = true
 | [], _, a, ha => by simp at ha
 | x :: xs, hx, a, ha => by
  rw [AC.clears, Bool.and_eq_true] at hx
  rcases List.mem_cons.1 ha with rfl | ha
  ·exact hx.1
  ·exact Ip hx.2 a ha
def AC.purge (ds : List Nat) : AC → AC
 | .row id n => if ds.contains id then .any else .row id n
 | .part id k n => if ds.contains id then .any else .part id k n
 | .rest id k n => if ds.contains id then .any else .rest id k n
 | .ptr id n k off => if ds.contains id then .any else .ptr id n k off
 | .mptr id => if ds.contains id then .any else .mptr id
 | .yld id => if ds.contains id then .any else .yld id
 | .fn f caps => if AC.clears ds caps then .fn f caps else .any
 | c => c
mutual
def AV.purge (ds : List Nat) : AV → AV
 | .one c => .one (c.purge ds)
 | .agg cs => .agg (cs.map (AC.purge ds))
 | .tup vs => .tup (AV.purges ds vs)
 | .any => .any
def AV.purges (ds : List Nat) : List AV → List AV
 | [] => []
 | v :: vs => v.purge ds :: AV.purges ds vs
end
def AH.purge (ds : List Nat) : AH → AH
 | .box e cs => .box e (cs.map (AC.purge ds))
 | .crow e cs => .crow e (cs.map (AC.purge ds))
 | .iter x n seen => .iter (x.purge ds) n seen
 | .loop env r => .loop (AV.purges ds env) r
 | b => b
def AU (ds : List Nat) (S : AA) : AA := fun id => if ds.contains id then none else (S id).map (AH.purge ds)
def AS.drop (ds : List Nat) (s : AS) : AS := ⟨fun i => (s.env i).purge ds, AU ds s.S⟩
theorem CI {ds : List Nat} (hds : ∀ d ∈ ds, d < 1000) {id : Nat} (h : 1000 ≤ id) : ds.contains id = false := by
 cases hc : ds.contains id with
 | false => rfl
 | true =>
  have := hds id (List.contains_iff_mem.1 hc)
  omega
mutual
theorem AC.clear_high {ds : List Nat} (hds : ∀ d ∈ ds, d < 1000) : ∀ {c : AC}, c.high = true → c.clear ds = true
 | .st _, _ => rfl
 | .full _, _ => rfl
 | .row id n, h => by
  rw [AC.high] at h
  rw [AC.clear, CI hds (of_decide_eq_true h)]
  rfl
 | .part id k n, h => by
  rw [AC.high] at h
  rw [AC.clear, CI hds (of_decide_eq_true h)]
  rfl
 | .rest id k n, h => by
  rw [AC.high] at h
  rw [AC.clear, CI hds (of_decide_eq_true h)]
  rfl
 | .ptr id n k off, h => by
  rw [AC.high] at h
  rw [AC.clear, CI hds (of_decide_eq_true h)]
  rfl
 | .mptr id, h => by
  rw [AC.high] at h
  rw [AC.clear, CI hds (of_decide_eq_true h)]
  rfl
 | .yld id, h => by
  rw [AC.high] at h
  rw [AC.clear, CI hds (of_decide_eq_true h)]
  rfl
 | .ubool, _ => rfl
 | .eptr _, _ => rfl
 | .fn f caps, h => by
  rw [AC.high] at h
  rw [AC.clear]
  exact AC.clears_highs hds h
 | .any, _ => rfl
theorem AC.clears_highs {ds : List Nat} (hds : ∀ d ∈ ds, d < 1000) : ∀ {cs : List AC}, AC.highs cs = true → AC.clears ds cs = true
 | [], _ => rfl
 | c :: cs, h => by
  rw [AC.highs, Bool.and_eq_true] at h
  rw [AC.clears, AC.clear_high hds h.1, AC.clears_highs hds h.2]
  rfl
end
theorem AC.purge_high {ds : List Nat} (hds : ∀ d ∈ ds, d < 1000) : ∀ {c : AC}, c.high = true → c.purge ds = c
 | .st _, _ => rfl
 | .full _, _ => rfl
 | .row id n, h => by
  rw [AC.high] at h
  simp only [AC.purge, CI hds (of_decide_eq_true h), Bool.false_eq_true, if_false]
 | .part id k n, h => by
  rw [AC.high] at h
  simp only [AC.purge, CI hds (of_decide_eq_true h), Bool.false_eq_true, if_false]
 | .rest id k n, h => by
  rw [AC.high] at h
  simp only [AC.purge, CI hds (of_decide_eq_true h), Bool.false_eq_true, if_false]
 | .ptr id n k off, h => by
  rw [AC.high] at h
  simp only [AC.purge, CI hds (of_decide_eq_true h), Bool.false_eq_true, if_false]
 | .mptr id, h => by
  rw [AC.high] at h
  simp only [AC.purge, CI hds (of_decide_eq_true h), Bool.false_eq_true, if_false]
 | .yld id, h => by
  rw [AC.high] at h
  simp only [AC.purge, CI hds (of_decide_eq_true h), Bool.false_eq_true, if_false]
 | .ubool, _ => rfl
 | .eptr _, _ => rfl
 | .fn f caps, h => by
  rw [AC.high] at h
  simp only [AC.purge, AC.clears_highs hds h, if_true]
 | .any, _ => rfl
mutual
theorem AV.purge_high {ds : List Nat} (hds : ∀ d ∈ ds, d < 1000) : ∀ {c : AV}, c.high = true → c.purge ds = c
 | .one c, h => by rw [AV.high] at h; rw [AV.purge, AC.purge_high hds h]
 | .agg cs, h => by
  rw [AV.high] at h
  rw [AV.purge]
  congr 1
  exact (List.map_congr_left fun a ha => AC.purge_high hds (BW h a ha)).trans (List.map_id _)
 | .tup vs, h => by rw [AV.high] at h; rw [AV.purge, AV.purges_high hds h]
 | .any, _ => rfl
theorem AV.purges_high {ds : List Nat} (hds : ∀ d ∈ ds, d < 1000) : ∀ {c : List AV}, AV.highs c = true → AV.purges ds c = c
 | [], _ => rfl
 | c :: cs, h => by
  rw [AV.highs, Bool.and_eq_true] at h
  rw [AV.purges, AV.purge_high hds h.1, AV.purges_high hds h.2]
end
theorem AH.purge_high {ds : List Nat} (hds : ∀ d ∈ ds, d < 1000) {b : AH} (h : b.high = true) : b.purge ds = b := by
 cases b with
 | box e cs =>
  rw [AH.high] at h
  simp only [AH.purge]
  congr 1
  exact (List.map_congr_left fun a ha => AC.purge_high hds (BW h a ha)).trans (List.map_id _)
 | crow e cs =>
  rw [AH.high] at h
  simp only [AH.purge]
  congr 1
  exact (List.map_congr_left fun a ha => AC.purge_high hds (BW h a ha)).trans (List.map_id _)
 | arow => rfl
 | mrow => rfl
 | map => rfl
 | memo => rfl
 | iter x =>
  rw [AH.high] at h
  simp only [AH.purge, AC.purge_high hds h]
 | loop env r =>
  rw [AH.high] at h
  simp only [AH.purge, AV.purges_high hds h]
 | dead => rfl
section
variable {C : Ctx} {σ : Sto} {ι : Ao} {s : AS} {a : Act} {w : World} {ds : List Nat}
theorem A_ (b : AH) : (b.purge ds).len = b.len := by cases b <;> first | rfl | simp [AH.purge, AH.len]
theorem FA (b : AH) : (b.purge ds).wid = b.wid := by cases b <;> rfl
theorem Ac.keepClear {ds : List Nat} {S S2 : AA} (hS : ∀ id b, ds.contains id = false → S id = some b → ∃ b', S2 id = some b' ∧ b'.len = b.len ∧ b'.wid = b.wid) {v : Value} {c : AC} (h : Ac σ S ι v c) (hc : c.clear ds = true) : Ac σ S2 ι v c := by
 induction h with
 | st h => exact .st h
 | full h => exact .full h
 | row h1 h2 h3 h4 =>
  rw [AC.clear] at hc
  obtain ⟨b', q1, q2, q3⟩ := hS _ _ (by simpa using hc) h1
  exact .row q1 (by rw [q2]; exact h2) h3 (by rw [q2]; exact h4)
 | part h1 h2 h3 h4 =>
  rw [AC.clear] at hc
  obtain ⟨b', q1, q2, q3⟩ := hS _ _ (by simpa using hc) h1
  exact .part q1 (by rw [q2]; exact h2) h3 (by rw [q2]; exact h4)
 | rest h1 h2 h3 h4 =>
  rw [AC.clear] at hc
  obtain ⟨b', q1, q2, q3⟩ := hS _ _ (by simpa using hc) h1
  exact .rest q1 (by rw [q2]; exact h2) h3 (by rw [q2, q3]; exact h4)
 | ptr h1 h2 h3 h4 =>
  rw [AC.clear] at hc
  obtain ⟨b', q1, q2, q3⟩ := hS _ _ (by simpa using hc) h1
  exact .ptr q1 (by rw [q2]; exact h2) h3 (by rw [q2, q3]; exact h4)
 | mptr h1 h2 h3 h4 =>
  rw [AC.clear] at hc
  obtain ⟨b', q1, q2, q3⟩ := hS _ _ (by simpa using hc) h1
  exact .mptr q1 (by rw [q2]; exact h2) h3 (by rw [q2]; exact h4)
 | yld h1 h2 h3 h4 =>
  rw [AC.clear] at hc
  obtain ⟨b', q1, q2, q3⟩ := hS _ _ (by simpa using hc) h1
  exact .yld q1 (by rw [q2]; exact h2) h3 (by rw [q2]; exact h4)
 | ubool => exact .ubool
 | eptr c h1 h2 hh => exact .eptr c h1 h2 hh
 | fn c h1 h2 h3 ih =>
  rw [AC.clear] at hc
  exact .fn c h1 h2 (fun j a ha => ih j a ha (Ip hc a (List.mem_of_getElem? ha)))
 | any h => exact .any h
theorem Ac.purge (hds : ∀ d ∈ ds, d < 1000) {v : Value} {c : AC} (h : Ac σ s.S ι v c) : Ac σ (s.drop ds).S ι v (c.purge ds) := by
 have h0 := h
 cases h with
 | st h => exact .st h
 | full h => exact .full h
 | @row _ id n b h1 h2 h3 h4 =>
  simp only [AC.purge]
  split
  ·exact .any h3
  ·rename_i hn
   exact .row (b := b.purge ds) (by simp only [AS.drop, AU, hn]; rw [h1]; rfl) (by rw [A_]; exact h2) h3 (by rw [A_]; exact h4)
 | @part _ id k n b h1 h2 h3 h4 =>
  simp only [AC.purge]
  split
  ·exact .any h3
  ·rename_i hn
   exact .part (b := b.purge ds) (by simp only [AS.drop, AU, hn]; rw [h1]; rfl) (by rw [A_]; exact h2) h3 (by rw [A_]; exact h4)
 | @rest _ id k n b h1 h2 h3 h4 =>
  simp only [AC.purge]
  split
  ·exact .any h3
  ·rename_i hn
   exact .rest (b := b.purge ds) (by simp only [AS.drop, AU, hn]; rw [h1]; rfl) (by rw [A_]; exact h2) h3 (by rw [A_, FA]; exact h4)
 | @ptr _ id n k off b h1 h2 h3 h4 =>
  simp only [AC.purge]
  split
  ·exact .any h3
  ·rename_i hn
   exact .ptr (b := b.purge ds) (by simp only [AS.drop, AU, hn]; rw [h1]; rfl) (by rw [A_]; exact h2) h3 (by rw [A_, FA]; exact h4)
 | @mptr _ id b h1 h2 h3 h4 =>
  simp only [AC.purge]
  split
  ·exact .any h3
  ·rename_i hn
   exact .mptr (b := b.purge ds) (by simp only [AS.drop, AU, hn]; rw [h1]; rfl) (by rw [A_]; exact h2) h3 (by rw [A_]; exact h4)
 | @yld _ id b h1 h2 h3 h4 =>
  simp only [AC.purge]
  split
  ·exact .any h3
  ·rename_i hn
   exact .yld (b := b.purge ds) (by simp only [AS.drop, AU, hn]; rw [h1]; rfl) (by rw [A_]; exact h2) h3 (by rw [A_]; exact h4)
 | ubool => exact .ubool
 | eptr c h1 h2 hh => exact .eptr c h1 h2 hh
 | @fn f vs caps c h1 h2 h3 =>
  simp only [AC.purge]
  split
  ·rename_i hh
   exact h0.keepClear (ds := ds) (fun id b hid hb => ⟨b.purge ds, by
    show AU ds s.S id = _
    unfold AU
    rw [hid, hb]
    rfl, A_ b, FA b⟩) (by rw [AC.clear]; exact hh)
  ·exact .any rfl
 | any h => exact .any h
mutual
theorem AO.purge (hds : ∀ d ∈ ds, d < 1000) : ∀ {v : Value} {c : AV}, AO σ s.S ι v c → AO σ (s.drop ds).S ι v (c.purge ds)
 | v, .one c, h => by cases h with | one h => exact .one (h.purge hds)
 | v, .agg cs, h => by cases h with | agg h => exact .agg ((h.mono fun _ _ x => x.purge hds).map_right)
 | v, .tup vs, h => by
  cases h with
  | tup c h1 h2 h3 =>
   obtain ⟨k1, k2⟩ := AO.purges hds (c := c) h3
   exact .tup c (by rw [h1, k1]) (fun j b hb => by
    rcases Nat.lt_or_ge j vs.length with hj | hj
    ·exact h2 j _ (List.getElem?_eq_getElem hj)
    ·rw [List.getElem?_eq_none (by omega)] at hb; cases hb) k2
 | v, .any, h => .any
theorem AO.purges (hds : ∀ d ∈ ds, d < 1000) : ∀ {vs : List AV} {c : Nat → Value}, (∀ j b, vs[j]? = some b → AO σ s.S ι (c j) b) → vs.length = (AV.purges ds vs).length ∧ ∀ j b, (AV.purges ds vs)[j]? = some b → AO σ (s.drop ds).S ι (c j) b
 | [], c, h => by simp [AV.purges]
 | x :: xs, c, h => by
  obtain ⟨m1, m2⟩ := AO.purges hds (vs := xs) (c := fun j => c (j + 1)) (fun j b hb => h (j + 1) b (by simpa using hb))
  refine ⟨by simp [AV.purges, ← m1], fun j b hb => ?_⟩
  cases j with
  | zero =>
   simp [AV.purges] at hb
   subst hb
   exact AO.purge hds (h 0 x rfl)
  | succ j => exact m2 j b (by simpa [AV.purges] using hb)
end
theorem BL.purge (hds : ∀ d ∈ ds, d < 1000) {h : Hnd} {b : AH} (hr : BL σ s.S ι w h b) : BL σ (s.drop ds).S ι w h (b.purge ds) := by
 cases hr with
 | box h1 h2 h3 h4 h5 => exact .box h1 h2 h3 ((h4.mono fun _ _ x => x.purge hds).map_right) h5
 | crow h1 h2 h3 hc hm h4 h5 => exact .crow h1 h2 h3 (by simpa using hc) hm (by rw [List.length_map]; exact (h4.mono fun _ _ x => x.purge hds).map_right) h5
 | afull h1 h2 h3 h4 => exact .afull h1 h2 h3 h4
 | arow h1 h2 h3 h4 h5 h6 h7 h8 h9 hh => exact .arow h1 h2 h3 h4 h5 h6 h7 h8 h9 hh
 | mnil h1 h2 => exact .mnil h1 h2
 | mrow h1 h2 h3 h4 h5 h6 h7 h8 h9 => exact .mrow h1 h2 h3 h4 h5 h6 h7 h8 h9
 | map h1 h2 h3 h4 => exact .map h1 h2 h3 h4
 | memo h1 h2 h3 h4 => exact .memo h1 h2 h3 h4
 | iter h1 h2 h3 h4 => exact .iter h1 h2 (h3.purge hds) h4
 | loop h1 h2 h3 h4 h5 =>
  obtain ⟨k1, k2⟩ := AO.purges hds h4
  exact .loop h1 h2 (by rw [← k1]; exact h3) k2 h5
 | dead h1 => exact .dead h1
theorem E_ {id : Nat} {b : AH} (h : (s.drop ds).S id = some b) : ∃ b', s.S id = some b' ∧ b = b'.purge ds := by
 simp only [AS.drop, AU] at h
 split at h
 ·cases h
 ·rw [Option.map_eq_some_iff] at h
  obtain ⟨b', h1, h2⟩ := h
  exact ⟨b', h1, h2.symm⟩
theorem Ae.drop (ds : List Nat) (s : AS) (hds : ∀ d ∈ ds, d < 1000) : Ae C s (s.drop ds) := fun a w ⟨σ, ι, R⟩ => by
 refine ⟨σ, ι, R.size, fun i hi => (R.env i hi).purge hds, R.nod, R.fit, fun id b h => ?_, fun id id' b b' g h1 h2 g1 g2 => ?_, fun id b g h hg => ?_, R.ext, R.old, R.os, R.grown, R.same, fun id b hb => ?_⟩
 ·obtain ⟨b', h1, rfl⟩ := E_ h
  exact (R.blk id b' h1).purge hds
 ·obtain ⟨c1, k1, _⟩ := E_ h1
  obtain ⟨c2, k2, _⟩ := E_ h2
  exact R.inj _ _ _ _ _ k1 k2 g1 g2
 ·obtain ⟨c1, k1, _⟩ := E_ h
  exact R.base _ _ _ k1 hg
 ·obtain ⟨b', h1, h2, h3⟩ := R.upd id b hb
  have hid := (C.clean id b hb).1
  have hnc : ds.contains id = false := by
   cases hc : ds.contains id with
   | false => rfl
   | true =>
    have := hds id (List.contains_iff_mem.1 hc)
    omega
  refine ⟨b'.purge ds, by simp only [AS.drop, AU, hnc]; rw [h1]; rfl, by rw [A_]; exact h2, fun hl => ?_⟩
  rw [A_] at hl
  rw [FA]
  exact h3 hl
theorem Ae.share {id : Nat} {e : TypeId} {wd : Nat} {xs : List (List SV)} (hS : s.S id = some (.mrow e wd xs)) : Ae C s (s.set id (.arow e wd xs)) := fun a w ⟨σ, ι, R⟩ => by
 have hb := R.blk _ _ hS
 have hι : AF ι id (ι id) = ι := by
  funext k
  unfold AF
  split
  ·rename_i h; rw [h]
  ·rfl
 cases hb with
 | mnil h1 h2 =>
  obtain ⟨hu, R'⟩ := R.turn (w' := w) hS (.arow e wd []) (ι id) (σ' := σ) (fun _ _ h => h) (fun _ _ _ => rfl) R.fit (Nat.le_refl _) (fun _ => ⟨rfl, rfl⟩) ⟨rfl, rfl, rfl⟩ (Nat.le_refl _) (fun _ _ _ => rfl) (fun g h => .inl h) (fun hu => .afull h1 (by simpa using h2) (by simp) (.list (b := 0) (o := 0) (w := 0) (fun _ _ => undef) rfl (by simp) (by rw [h2]; simp [maxLen]) (fun _ => h2) (by simp) (by simp) (fun _ h _ => absurd h (by omega)) (by simp) (by simp)))
  exact ⟨σ, _, R'⟩
 | @mrow _ _ _ g vs h1 h2 h3 h4 h5 h6 h7 h8 h9 =>
  have hl : A1 σ vs.toList wd xs := ⟨h7, fun k x j y hx hy => by simpa using h8 k x j y hx hy⟩
  have hkeep := E9 (σ := σ) (w' := w) (g := g) (k := xs.length * wd) (fun p x e hx => by rw [h9 _ e] at hx; cases hx)
  obtain ⟨hu, R'⟩ := R.turn (w' := w) hS (.arow e wd xs) (ι id) (σ' := DU σ w g (xs.length * wd)) hkeep (fun p hp _ => Et (fun e => hp (by rw [e]; exact h1))) (Dr R.fit) (Nat.le_refl _) (fun _ => ⟨rfl, rfl⟩) ⟨rfl, rfl, rfl⟩ (Nat.le_refl _) (fun _ _ _ => rfl) (fun g h => .inl h)
   (fun hu => by
    have := Gn (S' := (s.set id (.arow e wd xs)).S) (ι' := AF ι id (ι id)) (w' := w) (p := (ι id).p) h2 h3 h4 h5 h6 hl hkeep (fun p hp hne => absurd (h9 p hp) hne)
    rw [← h1] at this
    exact this)
  exact ⟨_, _, R'⟩
theorem Ae.own (t id : Nat) (e : TypeId) (wd : Nat) {xs : List (List SV)} (ht : s.env t = .one (.full xs)) (hid : s.S id = none) (hw : ∀ x ∈ xs, x.length = wd) (hn : t < C.n) : Ae C s ⟨AF s.env t (.one (.row id xs.length)), AF s.S id (some (.arow e wd xs))⟩ := fun a w ⟨σ, ι, R⟩ => by
 have rt := R.env t hn
 rw [ht] at rt
 generalize hv : a.tmps.getD t undef = v at rt
 cases AP rt with
 | @full p len xs hs =>
  have hl : len = xs.length := by
   obtain ⟨p', cap', e1, _⟩ := Cm hs
   cases e1
   rfl
  subst hl
  obtain ⟨hu, R'⟩ := R.fresh (w' := w) hid (.arow e wd xs) ⟨p, xs.length, none⟩ (Ext.refl _ _) R.fit (Below.refl _ _) (by simp) (fun S' ι' hu => .afull rfl rfl hw hs)
  refine ⟨σ, _, R'.size, fun i hi => ?_, R'.nod, R'.fit, R'.blk, R'.inj, R'.base, R'.ext, R'.old, R'.os, R'.grown, R'.same, R'.upd⟩
  show AO σ (s.set id (.arow e wd xs)).S _ _ (AF s.env t _ i)
  unfold AF
  split
  ·rename_i e1
   subst e1
   rw [hv]
   exact .one (.row (b := .arow e wd xs) (by simp [AS.set, AB]) (Nat.le_refl _) rfl fun _ => by simp [AF])
  ·exact R'.env i hi
theorem Ae.ownM (t id : Nat) (e : TypeId) (wd : Nat) (ht : s.env t = .one (.full [])) (hid : s.S id = none) (hn : t < C.n) : Ae C s ⟨AF s.env t (.one (.row id 0)), AF s.S id (some (.mrow e wd []))⟩ := fun a w ⟨σ, ι, R⟩ => by
 have rt := R.env t hn
 rw [ht] at rt
 generalize hv : a.tmps.getD t undef = v at rt
 cases AP rt with
 | @full p len xs hs =>
  have hl : len = 0 := by
   obtain ⟨p', cap', e1, _⟩ := Cm hs
   cases e1
   rfl
  subst hl
  obtain ⟨hu, R'⟩ := R.fresh (w' := w) hid (.mrow e wd []) ⟨p, 0, none⟩ (Ext.refl _ _) R.fit (Below.refl _ _) (by simp) (fun S' ι' hu => .mnil rfl rfl)
  refine ⟨σ, _, R'.size, fun i hi => ?_, R'.nod, R'.fit, R'.blk, R'.inj, R'.base, R'.ext, R'.old, R'.os, R'.grown, R'.same, R'.upd⟩
  show AO σ (s.set id (.mrow e wd [])).S _ _ (AF s.env t _ i)
  unfold AF
  split
  ·rename_i e1
   subst e1
   rw [hv]
   exact .one (.row (b := .mrow e wd []) (by simp [AS.set, AB]) (Nat.le_refl _) rfl fun _ => by simp [AF])
  ·exact R'.env i hi
theorem Ae.keep (t id k n : Nat) {e : TypeId} {wd : Nat} {xs : List (List SV)} (ht : s.env t = .one (.part id k n)) (hS : s.S id = some (.arow e wd xs)) (hl : n = xs.length) (hn : t < C.n) : Ae C s ⟨AF s.env t (.one (.st (.list (xs.take k)))), s.S⟩ := fun a w ⟨σ, ι, R⟩ => by
 have rt := R.env t hn
 rw [ht] at rt
 refine ⟨σ, ι, R.size, fun i hi => ?_, R.nod, R.fit, R.blk, R.inj, R.base, R.ext, R.old, R.os, R.grown, R.same, R.upd⟩
 show AO σ s.S ι _ (AF s.env t _ i)
 unfold AF
 split
 ·rename_i e1
  subst e1
  obtain ⟨b, h1, h2, h3⟩ := D4 (AP rt)
  rw [hS] at h1
  cases h1
  obtain ⟨h4, h5⟩ := h3 hl
  rw [h5]
  have hb := R.blk _ _ hS
  have hr := hb.srep
  have hmem : ∀ {kk x}, (xs.take k)[kk]? = some x → xs[kk]? = some x := fun hx => by
   rw [List.getElem?_take] at hx
   split at hx
   ·exact hx
   ·cases hx
  cases hr with
  | @list p len cap b o w' _ c q1 q2 q3 q4 q5 q6 qh q7 q8 =>
   exact .one (.st (.list (b := b) (o := o) (w := w') c (by rw [List.length_take]; omega) (by omega) q3 q4 (fun hne => q5 (by omega)) (fun x hx => q6 x (List.mem_of_mem_take hx)) (fun e1 e2 e3 => qh e1 e2 (fun e4 => e3 (by rw [e4]; exact List.take_nil))) (fun kk x j a hx ha => q7 kk x j a (hmem hx) ha) (fun kk x j a hx ha => q8 kk x j a (hmem hx) ha)))
 ·exact R.env i hi
theorem Rn {v : Value} {c : AV} (h : AO σ noS noH v c) : AO σ s.S ι v c := h.mono (fun _ _ h => h) (GO _ _)
def AV.low (v : AV) : AV := if v.high then v else .any
theorem AM.low (R : AM C σ ι s a w) (hb : ∀ i b, 1000 ≤ i → s.S i = some b → b.high = true) : AM C σ ι ⟨fun i => (s.env i).low, C9 s.S⟩ a w := by
 have hS : ∀ i b, 1000 ≤ i → s.S i = some b → C9 s.S i = some b := fun i b hi h => by
  show (if i < 1000 then none else s.S i) = some b
  rw [if_neg (by omega), h]
 have hinv : ∀ i b, C9 s.S i = some b → 1000 ≤ i ∧ s.S i = some b := fun i b h => by
  have h' : (if i < 1000 then none else s.S i) = some b := h
  split at h'
  ·cases h'
  ·exact ⟨by omega, h'⟩
 refine ⟨R.size, fun i hi => ?_, R.nod, R.fit, fun id b h => ?_, fun id id' b b' g h1 h2 g1 g2 => R.inj _ _ _ _ g (hinv _ _ h1).2 (hinv _ _ h2).2 g1 g2, fun id b g h hg => R.base _ _ g (hinv _ _ h).2 hg, R.ext, R.old, R.os, R.grown, R.same, fun id b h => ?_⟩
 ·show AO σ (C9 s.S) ι _ ((s.env i).low)
  unfold AV.low
  split
  ·rename_i hh
   exact (R.env i hi).low hS hh
  ·exact .any
 ·obtain ⟨h1, h2⟩ := hinv _ _ h
  have hh := hb id b h1 h2
  cases R.blk id b h2 with
  | box k1 k2 k3 k4 k5 => exact .box k1 k2 k3 (Hz hS k4 hh) k5
  | crow k1 k2 k3 kc km k4 k5 => exact .crow k1 k2 k3 kc km (Hz hS k4 hh) k5
  | afull k1 k2 k3 k4 => exact .afull k1 k2 k3 k4
  | arow k1 k2 k3 k4 k5 k6 k7 k8 k9 kh => exact .arow k1 k2 k3 k4 k5 k6 k7 k8 k9 kh
  | mnil k1 k2 => exact .mnil k1 k2
  | mrow k1 k2 k3 k4 k5 k6 k7 k8 k9 => exact .mrow k1 k2 k3 k4 k5 k6 k7 k8 k9
  | map k1 k2 k3 k4 => exact .map k1 k2 k3 k4
  | memo k1 k2 k3 k4 => exact .memo k1 k2 k3 k4
  | iter k1 k2 k3 k4 => exact .iter k1 k2 (k3.low hS hh) k4
  | loop k1 k2 k3 k4 k5 => exact .loop k1 k2 k3 (AO.lows hS k4 hh) k5
  | dead k1 => exact .dead k1
 ·obtain ⟨b', h1, h2⟩ := R.upd id b h
  exact ⟨b', hS _ _ (C.clean id b h).1 h1, h2⟩
theorem Ae.low (hb : ∀ i b, 1000 ≤ i → s.S i = some b → b.high = true) : Ae C s ⟨fun i => (s.env i).low, C9 s.S⟩ := fun a w ⟨σ, ι, R⟩ => ⟨σ, ι, R.low hb⟩
def BH (id a : Nat) (i : Nat) : Nat := if i = id then a else i
def AV.hand (id a : Nat) (v : AV) : AV := if (v.ren (BH id a)).high then v.ren (BH id a) else .any
section
variable {S S2 : AA} {ι2 : Ao} {id a0 : Nat}
theorem Ac.hand (hS : ∀ i b, 1000 ≤ BH id a0 i → S i = some b → S2 (BH id a0 i) = some b ∧ ι2 (BH id a0 i) = ι i) {v : Value} {c : AC} (h : Ac σ S ι v c) (hc : (c.ren (BH id a0)).high = true) : Ac σ S2 ι2 v (c.ren (BH id a0)) := by
 induction h with
 | st h => exact .st h
 | full h => exact .full h
 | row h1 h2 h3 h4 =>
  rw [AC.ren, AC.high] at hc
  obtain ⟨q1, q2⟩ := hS _ _ (of_decide_eq_true hc) h1
  rw [AC.ren]
  exact .row q1 h2 h3 (fun hn => by rw [q2]; exact h4 hn)
 | part h1 h2 h3 h4 =>
  rw [AC.ren, AC.high] at hc
  obtain ⟨q1, q2⟩ := hS _ _ (of_decide_eq_true hc) h1
  rw [AC.ren]
  exact .part q1 h2 h3 (fun hn => by rw [q2]; exact h4 hn)
 | rest h1 h2 h3 h4 =>
  rw [AC.ren, AC.high] at hc
  obtain ⟨q1, q2⟩ := hS _ _ (of_decide_eq_true hc) h1
  rw [AC.ren]
  exact .rest q1 h2 h3 (fun hn => by rw [q2]; exact h4 hn)
 | ptr h1 h2 h3 h4 =>
  rw [AC.ren, AC.high] at hc
  obtain ⟨q1, q2⟩ := hS _ _ (of_decide_eq_true hc) h1
  rw [AC.ren]
  exact .ptr q1 h2 h3 (fun hn => by rw [q2]; exact h4 hn)
 | mptr h1 h2 h3 h4 =>
  rw [AC.ren, AC.high] at hc
  obtain ⟨q1, q2⟩ := hS _ _ (of_decide_eq_true hc) h1
  rw [AC.ren]
  exact .mptr q1 h2 h3 (fun hn => by rw [q2]; exact h4 hn)
 | yld h1 h2 h3 h4 =>
  rw [AC.ren, AC.high] at hc
  obtain ⟨q1, q2⟩ := hS _ _ (of_decide_eq_true hc) h1
  rw [AC.ren]
  exact .yld q1 h2 h3 (fun hn => by rw [q2]; exact h4 hn)
 | ubool => exact .ubool
 | eptr c h1 h2 hh => exact .eptr c h1 h2 hh
 | @fn f vs caps c h1 h2 h3 ih =>
  rw [AC.ren, AC.high] at hc
  rw [AC.ren]
  have key : ∀ (j : Nat) (b : AC), (AC.rens (BH id a0) caps)[j]? = some b → ∃ a, caps[j]? = some a ∧ b = a.ren (BH id a0) := fun j b hb => by
   rw [AC.rens_eq, List.getElem?_map, Option.map_eq_some_iff] at hb
   obtain ⟨a, ha, rfl⟩ := hb
   exact ⟨a, ha, rfl⟩
  refine .fn c (by rw [AC.rens_eq]; simpa using h1) (fun j b hb => ?_) (fun j b hb => ?_)
  ·obtain ⟨a, ha, rfl⟩ := key j b hb
   exact h2 j a ha
  ·have hm := BW hc b (List.mem_of_getElem? hb)
   obtain ⟨a, ha, rfl⟩ := key j b hb
   exact ih j a ha hm
 | any h => exact .any h
mutual
theorem AO.hand (hS : ∀ i b, 1000 ≤ BH id a0 i → S i = some b → S2 (BH id a0 i) = some b ∧ ι2 (BH id a0 i) = ι i) : ∀ {v : Value} {c : AV}, AO σ S ι v c → (c.ren (BH id a0)).high = true → AO σ S2 ι2 v (c.ren (BH id a0))
 | v, .one c, h, hc => by
  rw [AV.ren] at hc ⊢
  rw [AV.high] at hc
  cases h with | one h => exact .one (h.hand hS hc)
 | v, .agg cs, h, hc => by
  rw [AV.ren] at hc ⊢
  rw [AV.high] at hc
  cases h with
  | agg h =>
   refine .agg (AT.of_get (by rw [AC.rens_eq]; simpa using h.len) fun j x c hx hcj => ?_)
   have hm := BW hc c (List.mem_of_getElem? hcj)
   rw [AC.rens_eq, List.getElem?_map, Option.map_eq_some_iff] at hcj
   obtain ⟨c', hc', rfl⟩ := hcj
   obtain ⟨x', h1, h2⟩ := h.get hc'
   rw [hx] at h1
   cases h1
   exact h2.hand hS hm
 | v, .tup vs, h, hc => by
  rw [AV.ren] at hc ⊢
  rw [AV.high] at hc
  cases h with
  | tup c h1 h2 h3 =>
   obtain ⟨k1, k2⟩ := AO.hands hS h3 hc
   exact .tup c (by rw [h1, k1]) (fun j b hb => by
    rcases Nat.lt_or_ge j vs.length with hj | hj
    ·exact h2 j _ (List.getElem?_eq_getElem hj)
    ·rw [List.getElem?_eq_none (by omega)] at hb; cases hb) k2
 | v, .any, h, _ => .any
theorem AO.hands (hS : ∀ i b, 1000 ≤ BH id a0 i → S i = some b → S2 (BH id a0 i) = some b ∧ ι2 (BH id a0 i) = ι i) : ∀ {vs : List AV} {c : Nat → Value}, (∀ j b, vs[j]? = some b → AO σ S ι (c j) b) → AV.highs (AV.rens (BH id a0) vs) = true → vs.length = (AV.rens (BH id a0) vs).length ∧ ∀ j b, (AV.rens (BH id a0) vs)[j]? = some b → AO σ S2 ι2 (c j) b
 | [], c, h, _ => by simp [AV.rens]
 | x :: xs, c, h, hc => by
  rw [AV.rens, AV.highs, Bool.and_eq_true] at hc
  obtain ⟨m1, m2⟩ := AO.hands hS (vs := xs) (c := fun j => c (j + 1)) (fun j b hb => h (j + 1) b (by simpa using hb)) hc.2
  refine ⟨by simp [AV.rens, ← m1], fun j b hb => ?_⟩
  cases j with
  | zero =>
   simp [AV.rens] at hb
   subst hb
   exact AO.hand hS (h 0 x rfl) hc.1
  | succ j => exact m2 j b (by simpa [AV.rens] using hb)
end
end
theorem Ac.stay {S S2 : AA} {ι2 : Ao} (hS : ∀ i b, 1000 ≤ i → S i = some b → S2 i = some b ∧ ι2 i = ι i) {v : Value} {c : AC} (h : Ac σ S ι v c) (hc : c.high = true) : Ac σ S2 ι2 v c := by
 induction h with
 | st h => exact .st h
 | full h => exact .full h
 | row h1 h2 h3 h4 =>
  rw [AC.high] at hc
  obtain ⟨q1, q2⟩ := hS _ _ (of_decide_eq_true hc) h1
  exact .row q1 h2 h3 (fun hn => by rw [q2]; exact h4 hn)
 | part h1 h2 h3 h4 =>
  rw [AC.high] at hc
  obtain ⟨q1, q2⟩ := hS _ _ (of_decide_eq_true hc) h1
  exact .part q1 h2 h3 (fun hn => by rw [q2]; exact h4 hn)
 | rest h1 h2 h3 h4 =>
  rw [AC.high] at hc
  obtain ⟨q1, q2⟩ := hS _ _ (of_decide_eq_true hc) h1
  exact .rest q1 h2 h3 (fun hn => by rw [q2]; exact h4 hn)
 | ptr h1 h2 h3 h4 =>
  rw [AC.high] at hc
  obtain ⟨q1, q2⟩ := hS _ _ (of_decide_eq_true hc) h1
  exact .ptr q1 h2 h3 (fun hn => by rw [q2]; exact h4 hn)
 | mptr h1 h2 h3 h4 =>
  rw [AC.high] at hc
  obtain ⟨q1, q2⟩ := hS _ _ (of_decide_eq_true hc) h1
  exact .mptr q1 h2 h3 (fun hn => by rw [q2]; exact h4 hn)
 | yld h1 h2 h3 h4 =>
  rw [AC.high] at hc
  obtain ⟨q1, q2⟩ := hS _ _ (of_decide_eq_true hc) h1
  exact .yld q1 h2 h3 (fun hn => by rw [q2]; exact h4 hn)
 | ubool => exact .ubool
 | eptr c h1 h2 hh => exact .eptr c h1 h2 hh
 | fn c h1 h2 h3 ih =>
  rw [AC.high] at hc
  exact .fn c h1 h2 (fun j a ha => ih j a ha (BW hc a (List.mem_of_getElem? ha)))
 | any h => exact .any h
theorem AM.hand (R : AM C σ ι s a w) (id a0 : Nat) {b0 : AH} (hid : id < 1000) (ha : 1000 ≤ a0) (hSa : s.S a0 = none) (hb0 : s.S id = some b0) (hbh : b0.high = true) (hb : ∀ i b, 1000 ≤ i → s.S i = some b → b.high = true) :
  AM C σ (AF ι a0 (ι id)) ⟨fun i => (s.env i).hand id a0, AF (C9 s.S) a0 (some b0)⟩ a w ∧ ∀ i b, 1000 ≤ BH id a0 i → s.S i = some b → AF (C9 s.S) a0 (some b0) (BH id a0 i) = some b ∧ AF ι a0 (ι id) (BH id a0 i) = ι i := by
 have hlow : ∀ i, 1000 ≤ i → C9 s.S i = s.S i := fun i hi => by
  show (if i < 1000 then none else s.S i) = _
  rw [if_neg (by omega)]
 have hS : ∀ i b, 1000 ≤ BH id a0 i → s.S i = some b → AF (C9 s.S) a0 (some b0) (BH id a0 i) = some b ∧ AF ι a0 (ι id) (BH id a0 i) = ι i := fun i b hi h => by
  unfold BH at hi ⊢
  by_cases e : i = id
  ·subst e
   rw [if_pos rfl, AB, AB, ← hb0, h]
   exact ⟨rfl, rfl⟩
  ·rw [if_neg e] at hi ⊢
   have hne : i ≠ a0 := fun e => by subst e; rw [hSa] at h; cases h
   rw [AD _ hne, AD _ hne, hlow i hi]
   exact ⟨h, rfl⟩
 have hS' : ∀ i b, 1000 ≤ i → s.S i = some b → AF (C9 s.S) a0 (some b0) i = some b ∧ AF ι a0 (ι id) i = ι i := fun i b hi h => by
  have hne : i ≠ a0 := fun e => by subst e; rw [hSa] at h; cases h
  rw [AD _ hne, AD _ hne, hlow i hi]
  exact ⟨h, rfl⟩
 have hinv : ∀ i b, AF (C9 s.S) a0 (some b0) i = some b → (i = a0 ∧ b = b0) ∨ (i ≠ a0 ∧ 1000 ≤ i ∧ s.S i = some b) := fun i b h => by
  by_cases e : i = a0
  ·subst e
   rw [AB] at h
   cases h
   exact .inl ⟨rfl, rfl⟩
  ·rw [AD _ e] at h
   have h' : (if i < 1000 then none else s.S i) = some b := h
   split at h'
   ·cases h'
   ·exact .inr ⟨e, by omega, h'⟩
 refine ⟨⟨R.size, fun i hi => ?_, R.nod, R.fit, fun i b h => ?_, fun i j b c g h1 h2 g1 g2 => ?_, fun i b g h hg => ?_, R.ext, R.old, R.os, R.grown, R.same, fun i b h => ?_⟩, hS⟩
 ·show AO σ (AF (C9 s.S) a0 (some b0)) _ _ ((s.env i).hand id a0)
  unfold AV.hand
  split
  ·rename_i hh
   exact (R.env i hi).hand hS hh
  ·exact .any
 ·rcases hinv i b h with ⟨rfl, rfl⟩ | ⟨hne, h1, h2⟩
  ·rw [AB]
   exact (R.blk id _ hb0).samecells (fun v c hv hc => hv.stay hS' hc) hbh
  ·rw [AD _ hne]
   exact (R.blk i b h2).samecells (fun v c hv hc => hv.stay hS' hc) (hb i b h1 h2)
 ·rcases hinv i b h1 with ⟨rfl, rfl⟩ | ⟨hne, k1, k2⟩ <;> rcases hinv j c h2 with ⟨rfl, rfl⟩ | ⟨hne', k1', k2'⟩
  ·rfl
  ·rw [AB] at g1
   rw [AD _ hne'] at g2
   have := R.inj _ _ _ _ g hb0 k2' g1 g2
   omega
  ·rw [AB] at g2
   rw [AD _ hne] at g1
   have := R.inj _ _ _ _ g k2 hb0 g1 g2
   omega
  ·rw [AD _ hne] at g1
   rw [AD _ hne'] at g2
   exact R.inj _ _ _ _ g k2 k2' g1 g2
 ·rcases hinv i b h with ⟨rfl, rfl⟩ | ⟨hne, k1, k2⟩
  ·rw [AB] at hg
   exact R.base _ _ g hb0 hg
  ·rw [AD _ hne] at hg
   exact R.base _ _ g k2 hg
 ·obtain ⟨b', h1, h2, h3⟩ := R.upd i b h
  obtain ⟨q1, q2⟩ := hS' i b' (C.clean i b h).1 h1
  exact ⟨b', q1, h2, fun hl => ⟨(h3 hl).1, by rw [q2]; exact (h3 hl).2⟩⟩
theorem Ae.hand (id a0 : Nat) {b0 : AH} (hid : id < 1000) (ha : 1000 ≤ a0) (hSa : s.S a0 = none) (hb0 : s.S id = some b0) (hbh : b0.high = true) (hb : ∀ i b, 1000 ≤ i → s.S i = some b → b.high = true) : Ae C s ⟨fun i => (s.env i).hand id a0, AF (C9 s.S) a0 (some b0)⟩ := fun a w ⟨σ, ι, R⟩ =>
 ⟨σ, _, (R.hand id a0 hid ha hSa hb0 hbh hb).1⟩
theorem PU {C : Ctx} {rs : List RV} {S' : AA} {e : AX} {s : AS} (he : match e with | .normal => True | .ret => True | _ => False) (id a0 : Nat) (r0 : AV) {b0 : AH} (hid : id < 1000) (ha : 1000 ≤ a0) (hSa : s.S a0 = none) (hb0 : s.S id = some b0) (hbh : b0.high = true) (hb : ∀ i b, 1000 ≤ i → s.S i = some b → b.high = true)
  (h1 : (AI s rs).map AW = some r0) (hh : (r0.ren (BH id a0)).high = true) (h3 : AF (C9 s.S) a0 (some b0) = S') (hc : Al S') : JB C rs (r0.ren (BH id a0)) S' e s :=
 ⟨he, s, ⟨fun i => (s.env i).hand id a0, AF (C9 s.S) a0 (some b0)⟩, r0, Ae.refl _ _, h1, fun σ ι a w R => ⟨σ, _, (R.hand id a0 hid ha hSa hb0 hbh hb).1, fun v hv => hv.hand (R.hand id a0 hid ha hSa hb0 hbh hb).2 hh⟩, h3, hc⟩
theorem Bt (S : AA) (i : Nat) : upS S (up1 i) = (S i).map (AH.ren up1) := by
 show (if i + 1000 < 1000 then none else (S (i + 1000 - 1000)).map (AH.ren up1)) = _
 rw [if_neg (by omega), Nat.add_sub_cancel]
theorem E6 (S : AA) (i : Nat) (b : AH) : dnS (AF S (up1 i) (some b)) = AF (dnS S) i (some (b.ren dn1)) := by
 funext k
 show (AF S (up1 i) (some b) (up1 k)).map _ = AF (dnS S) i _ k
 by_cases h : k = i
 ·subst h
  rw [AB, AB]
  rfl
 ·have hne : up1 k ≠ up1 i := fun e => h (by have := congrArg dn1 e; rw [HQ, HQ] at this; exact this)
  rw [AD _ hne, AD _ h]
  rfl
theorem Ay {S : AA} (h : Al S) {i : Nat} (hi : 1000 ≤ i) {b : AH} (hb : b.high = true) : Al (AF S i (some b)) := fun k c hk => by
 by_cases e : k = i
 ·subst e
  rw [AB] at hk
  cases hk
  exact ⟨hi, hb⟩
 ·rw [AD _ e] at hk
  exact h k c hk
end
theorem IWP.loopD {P : Program} {C : Ctx} {mu : List Nat} {Q : AX → AS → Prop} {s : AS} {x : IR} (ds : List Nat) (Inv : Nat → AS → Prop) (m0 : Nat) (h0 : Inv m0 s) (h : ∀ m s, Inv m s → IWP P C mu x (AX.then (fun s' => ∃ m', m' < m ∧ Inv m' (s'.drop ds)) Q) s) (hds : ∀ d ∈ ds, d < 1000 := by decide) : IWP P C mu (.loop x) Q s := by
 refine IWP.loop (fun m s => ∃ s1, Ae C s s1 ∧ Inv m s1) m0 ⟨s, Ae.refl _ _, h0⟩ fun m s ⟨s1, hg, hi⟩ => ?_
 refine (IWP.ghost hg (h m s1 hi)).mono fun e s2 he => ?_
 cases e with
 | normal =>
  obtain ⟨m', h1, h2⟩ := he
  exact ⟨m', h1, _, Ae.drop ds s2 hds, h2⟩
 | _ => exact he
theorem Ac.out {σ : Sto} {S : AA} {ι : Ao} {v : Value} {c : AC} (h : Ac σ S ι v c) (hc : outC noS c = some c) : Ac σ noS noH v c := by
 cases h with
 | st h => exact .st h
 | full h => simp [outC, stC] at hc
 | row h1 h2 h3 h4 => simp [outC, stC, noS] at hc
 | part h1 h2 h3 h4 => simp [outC, stC, noS] at hc
 | rest h1 h2 h3 h4 => simp [outC, stC, noS] at hc
 | ptr h1 h2 h3 h4 => simp [outC, stC] at hc
 | mptr h1 h2 h3 h4 => simp [outC, stC] at hc
 | yld h1 h2 h3 h4 => simp [outC, stC] at hc
 | ubool => exact .ubool
 | eptr c h1 h2 hh => exact .eptr c h1 h2 hh
 | @fn f vs caps c h1 h2 h3 =>
  cases caps with
  | nil => exact .fn c h1 h2 (by simp)
  | cons x xs =>
   have hall : (x :: xs).all AC.stay = true := by
    unfold outC at hc
    by_cases e : (x :: xs).all AC.stay = true
    ·exact e
    ·simp only [e, if_false] at hc
     cases hc
   exact .fn c h1 h2 fun j a ha => (h3 j a ha).staying (List.all_eq_true.1 hall a (List.mem_of_getElem? ha))
 | any h => simp [outC, stC] at hc
theorem IT : ∀ {cs : List AC}, outCs noS cs = some cs → ∀ c ∈ cs, outC noS c = some c
 | [], _, c, hc => by simp at hc
 | x :: xs, h, c, hc => by
  simp only [outCs] at h
  split at h
  ·rename_i y ys h1 h2
   simp only [Option.some.injEq, List.cons.injEq] at h
   obtain ⟨rfl, rfl⟩ := h
   rcases List.mem_cons.1 hc with rfl | hc
   ·exact h1
   ·exact IT h2 c hc
  ·cases h
mutual
theorem AO.out {σ : Sto} {S : AA} {ι : Ao} : ∀ {v : Value} {c : AV}, AO σ S ι v c → outV noS c = some c → AO σ noS noH v c
 | v, .one c, h, hc => by
  rw [outV, Option.map_eq_some_iff] at hc
  obtain ⟨a, h1, h2⟩ := hc
  cases h2
  cases h with | one h => exact .one (h.out h1)
 | v, .agg cs, h, hc => by
  rw [outV, Option.map_eq_some_iff] at hc
  obtain ⟨a, h1, h2⟩ := hc
  cases h2
  cases h with
  | agg h => exact .agg (AT.of_get h.len fun j x c hx hcj => by
    obtain ⟨x', q1, q2⟩ := h.get hcj
    rw [hx] at q1
    cases q1
    exact q2.out (IT h1 c (List.mem_of_getElem? hcj)))
 | v, .tup vs, h, hc => by
  rw [outV, Option.map_eq_some_iff] at hc
  obtain ⟨a, h1, h2⟩ := hc
  cases h2
  cases h with
  | tup c k1 k2 k3 => exact .tup c k1 k2 (AO.outs k3 h1)
 | v, .any, h, _ => .any
theorem AO.outs {σ : Sto} {S : AA} {ι : Ao} : ∀ {vs : List AV} {c : Nat → Value}, (∀ j b, vs[j]? = some b → AO σ S ι (c j) b) → outVs noS vs = some vs → ∀ j b, vs[j]? = some b → AO σ noS noH (c j) b
 | [], c, h, _, j, b, hb => by simp at hb
 | x :: xs, c, h, hc, j, b, hb => by
  rw [outVs] at hc
  split at hc
  ·rename_i y ys h1 h2
   simp only [Option.some.injEq, List.cons.injEq] at hc
   obtain ⟨rfl, rfl⟩ := hc
   cases j with
   | zero =>
    simp at hb
    subst hb
    exact AO.out (h 0 _ rfl) h1
   | succ j => exact AO.outs (c := fun j => c (j + 1)) (fun j b hb => h (j + 1) b (by simpa using hb)) h2 j b (by simpa using hb)
  ·cases hc
end
theorem Pg {C : Ctx} {rs : List RV} {r : AV} {S' : AA} {e : AX} {s : AS} (he : match e with | .normal => True | .ret => True | _ => False) (r0 : AV) (h1 : (AI s rs).map AW = some r0) (h2 : outV s.S r0 = some r) (hb : ∀ i b, 1000 ≤ i → s.S i = some b → b.high = true) (h3 : C9 s.S = S') (hc : Al S') : JB C rs r S' e s := by
 refine ⟨he, s, ⟨fun i => (s.env i).low, C9 s.S⟩, r0, Ae.refl _ _, h1, fun σ ι a w R => ?_, h3, hc⟩
 exact ⟨σ, ι, R.low hb, fun v hv => Rn (s := ⟨fun i => (s.env i).low, C9 s.S⟩) (R.outV hv h2)⟩
theorem Bv {C : Ctx} {rs : List RV} {r : AV} {e : AX} {s : AS} {S : AA} (r0 : AV) (hS : Al S) (he : match e with | .normal => True | .ret => True | _ => False)
  (h1 : (AI s rs).map AW = some r0) (h2 : outV s.S r0 = some r) (h4 : ∀ i, 1000 ≤ i → s.S i = S i) : JB C rs r S e s :=
 Pg he r0 h1 h2 (fun i b hi hb => (hS i b (by rw [← h4 i hi]; exact hb)).2) (by
  funext i
  unfold C9
  split
  ·exact (BQ hS (by omega)).symm
  ·exact h4 i (by omega)) hS
theorem Mm {C : Ctx} {rs : List RV} {r : AV} {S' : AA} {e : AX} {s s1 : AS} (hg : Ae C s s1) (h : JB C rs r S' e s1) : JB C rs r S' e s := by
 obtain ⟨he, s2, s3, r0, h1, h2⟩ := h
 exact ⟨he, s2, s3, r0, hg.trans h1, h2⟩
theorem R3 {C : Ctx} {rs : List RV} {e : AX} {s : AS} {ty : TypeId} {w n : Nat} {ys : List (List SV)} {mu : Bool} (he : match e with | .normal => True | .ret => True | _ => False) (id : Nat) (hid : id < 1000) (hb0 : s.S id = some (Hc mu ty w ys)) (hlow : ∀ i, 1000 ≤ i → s.S i = none)
  (h1 : (AI s rs).map AW = some (.one (.row id n))) : JB C rs (.one (.row 1000 n)) (fun i => if i = 1000 then some (Hc mu ty w ys) else noS i) e s := by
 have e1 : (AV.one (.row id n)).ren (BH id 1000) = .one (.row 1000 n) := by simp [AV.ren, AC.ren, BH]
 rw [← e1]
 refine PU he id 1000 _ hid (by decide) (hlow 1000 (by decide)) hb0 (by cases mu <;> rfl) (fun i b hi hb => by rw [hlow i hi] at hb; cases hb) h1 (by rw [e1]; rfl) ?_ ?_
 ·funext i
  unfold AF C9 noS
  by_cases h2 : i = 1000
  ·rw [if_pos h2, if_pos h2]
  ·rw [if_neg h2, if_neg h2]
   split
   ·rfl
   ·exact hlow i (by omega)
 ·intro i b hb
  have hb : (if i = 1000 then some (Hc mu ty w ys) else noS i) = some b := hb
  split at hb
  ·rename_i h2
   cases hb
   exact ⟨by omega, by cases mu <;> rfl⟩
  ·cases hb

theorem Ox (c P Q : Prop) [Decidable c] : ((c → P) ∧ (¬ c → Q)) = if c then P else Q := by
 by_cases h : c <;> simp [h]
theorem Qg {c A B : Prop} [Decidable c] (h : (c → A) ∧ (¬ c → B)) : if c then A else B := by
 by_cases hc : c
 ·rw [if_pos hc]; exact h.1 hc
 ·rw [if_neg hc]; exact h.2 hc
theorem P9 (b : Bool) (P Q : Prop) : ((b = true → P) ∧ (b = false → Q)) = if b = true then P else Q := by
 cases b <;> simp
attribute [congr] Ln.congr Gq.congr
mutual
def CT : Tm → List SV
 | .mk n xs => [.str n, .list (N9 xs)]
def N9 : List Tm → List (List SV)
 | [] => []
 | t :: ts => CT t :: N9 ts
end
theorem Hu : ∀ xs : List Tm, N9 xs = xs.map CT
 | [] => rfl
 | t :: ts => by rw [N9, Hu ts]; rfl
theorem OS (t : Tm) : CT t = [.str t.name, .list (t.args.map CT)] := by
 cases t
 rw [CT, Hu]
 rfl
class MC {α : Type} (f : α → List SV) (n : outParam Nat) : Prop where
 ok : ∀ a, (f a).length = n
theorem SO {α : Type} {f : α → List SV} {n : Nat} [h : MC f n] {ts : List α} : ∀ x ∈ ts.map f, x.length = n := fun x hx => by
 obtain ⟨a, _, rfl⟩ := List.mem_map.1 hx
 exact h.ok a
instance : MC CT 2 := ⟨fun t => by rw [OS]; rfl⟩
theorem Tm.args_mk (n : ByteArray) (xs : List Tm) : (Tm.mk n xs).args = xs := rfl
theorem Tm.name_mk (n : ByteArray) (xs : List Tm) : (Tm.mk n xs).name = n := rfl
abbrev AN (n : Int) : AV := .one (.st (.int .i64 n))
abbrev As (b : Bool) : AV := .one (.st (.bool b))
abbrev FO (s : ByteArray) : AV := .one (.st (.str s))
abbrev aTm (t : Tm) : AV := .agg [.st (.str t.name), .st (.list (t.args.map CT))]
abbrev Cz (n : Int) : List SV := [.int .i64 n]
abbrev JN (s : ByteArray) : List SV := [.str s]
abbrev N_ (l : List Int) : AV := .one (.st (.list (l.map Cz)))
abbrev Rs (l : List ByteArray) : AV := .one (.st (.list (l.map JN)))
abbrev LQ (l : List Tm) : AV := .one (.st (.list (l.map CT)))
theorem Ad {α : Type} {xs : List α} {k : Nat} (h : k < xs.length) : ∃ a, xs[k]? = some a := ⟨xs[k], List.getElem?_eq_getElem h⟩
theorem KS (n : Int) : inR .i64 n ↔ -9223372036854775808 ≤ n ∧ n ≤ 9223372036854775807 := by
 simp [inR, IntKind.min, IntKind.max, IntKind.signed, IntKind.bits]
theorem Bu : maxLen = 9223372036854775807 := by simp [maxLen]
theorem O5 {S : AA} {xs : List (List SV)} (h : (AV.one (.st (.list xs))).known S) : xs.length ≤ 9223372036854775807 := by
 simp only [AV.known, AC.known, SV.known] at h
 rw [Bu] at h
 exact h.1

def Kd.isCall : Kd → Bool
 | .call _ _ => true
 | .callS _ _ => true
 | .callV _ _ => true
 | .callN _ _ => true
 | .callR _ _ => true
 | .callW _ _ => true
 | .callX _ _ => true
 | .callY _ _ => true
 | .buildFlat _ => false
 | .cutP _ _ _ => false
 | .indexP _ _ _ => false
 | .appP _ _ _ _ _ => false
 | .restP _ _ _ => false
 | .appS _ _ _ => false
 | .loadL _ _ _ => false
 | .indexL _ _ _ => false
 | .buildL _ _ => false
 | .fieldL _ _ => false
 | .lenL _ _ => false
 | .appF _ _ _ _ _ _ => false
 | .clearP _ _ _ _ => false
 | .copyP _ _ => false
 | .mov _ => false
 | .pick _ _ _ => false
 | .alloc _ _ => false
 | .box _ _ => false
 | .build _ _ => false
 | .buildSlice _ _ _ _ => false
 | .load _ _ _ => false
 | .store _ _ _ => false
 | .fieldAddr _ _ => false
 | .field _ _ _ _ => false
 | .indexAddr _ _ _ => false
 | .indexArr _ _ _ _ => false
 | .indexStr _ _ => false
 | .bin _ _ _ => false
 | .eqB _ _ _ => false
 | .eqN _ _ => false
 | .eqE _ _ => false
 | .eqP _ _ => false
 | .bits _ _ _ => false
 | .never => false
 | .pan _ => false
 | .iface _ _ => false
 | .strOf _ _ => false
 | .un _ _ => false
 | .sliceS _ _ _ => false
 | .sliceL _ _ _ _ => false
 | .sliceM _ _ _ _ => false
 | .extract _ _ => false
 | .len _ _ => false
 | .append _ _ _ _ _ _ => false
 | .conv _ _ => false
 | .nilCheck _ => false
 | .mm _ _ _ => false
 | .makeSlice _ _ _ _ _ _ => false
 | .makeFunc _ _ => false
 | .makeMap _ => false
 | .lookup _ _ _ _ _ => false
 | .mapSet _ _ _ _ => false
 | .mapEntry _ _ _ _ => false
 | .entrySet _ _ _ => false
 | .rangeM _ => false
 | .next _ => false
 | .entry _ => false
 | .lenM _ => false
 | .buildArr _ => false
 | .makeMemo => false
 | .memoGet _ _ _ _ => false
 | .memoSet _ _ _ => false
inductive Rt (P : Program) (f : FuncId) (vs : List AV) (d : Option Nat) (l : List Ins) (s : AS) (K : AS → Prop) : Prop
 | mk (r : AV) (h1 : Ap P f vs r) (h2 : Run P l (s.put d r) K)
inductive KM (P : Program) (f : FuncId) (vs : List AV) (S : AA) (ks : List Nat) (d : Option Nat) (l : List Ins) (env : Nat → AV) (K : AS → Prop) : Prop
 | mk (r : AV) (S' : AA) (h1 : BO P f vs (upS S) r S') (h2 : (∀ k ∈ ks, dnS S' k = S k) ∧ Run P l ((⟨env, dnS S'⟩ : AS).put d (r.ren dn1)) K)
inductive Pn (P : Program) (f : FuncId) (vs : List AV) (ks : List Nat) (d : Option Nat) (l : List Ins) (s : AS) (K : AS → Prop) : Prop
 | mk (mu : Bool) (e : TypeId) (w : Nat) (ys : List (List SV)) (h1 : Hk P f vs e w ys mu) (h2 : s.S (d.getD 0) = none ∧ (∀ k ∈ ks, (s.set (d.getD 0) (Hc mu e w ys)).S k = s.S k) ∧ Run P l ((s.set (d.getD 0) (Hc mu e w ys)).put d (.one (.row (d.getD 0) ys.length))) K)
inductive R8 (P : Program) (f : FuncId) (vs : List AV) (d : Option Nat) (l : List Ins) (s : AS) (K : AS → Prop) : Prop
 | mk (r : AV) (rows : List (Nat × AH)) (h0 : ∀ q ∈ rows, s.S q.1 = some q.2) (h1 : ∀ T : AA, (∀ q ∈ rows, T q.1 = some q.2) → BO P f vs (upS T) r (upS T)) (h2 : Run P l (s.put d (r.ren dn1)) K)
inductive Q9 (P : Program) (f : FuncId) (vs : List AV) (ks : List Nat) (d : Option Nat) (l : List Ins) (s : AS) (K : AS → Prop) : Prop
 | mk (r : AV) (rows : List (Nat × AH × AH)) (h0 : N2 s.S rows) (h1 : ∀ T : AA, N2 T rows → BO P f vs (upS T) r (upS (EZ T rows))) (h2 : (∀ k ∈ ks, EZ s.S rows k = s.S k) ∧ Run P l ((⟨s.env, EZ s.S rows⟩ : AS).put d (r.ren dn1)) K)
inductive Kb (P : Program) (S : AA) (hs : Bool) (G : AA → (AV → AA → Prop) → Prop) (d : Option Nat) (l : List Ins) (env : Nat → AV) (K : AS → Prop) : Prop
 | mk (T : AA) (Post : AV → AA → Prop) (h1 : Al T) (h2 : ∀ i, 1000 ≤ i → S i = T i) (h3 : hs = true) (h4 : G T Post) (h5 : ∀ r S', Al S' → Post r S' → Run P l ((⟨env, CV S S'⟩ : AS).put d r) K)
def Kd.goC (P : Program) (d : Option Nat) (s : AS) (t : Tag) (l : List Ins) (K : AS → Prop) : Kd → Prop
 | .call f xs => match t with
  | .no => match outVs s.S (s.evs xs) with
   | some vs => Rt P f vs d l s K
   | none => False
  | _ => False
 | .callR f xs => match t with
  | .no => R8 P f (AV.rens up1 (s.evs xs)) d l s K
  | _ => False
 | .callW f xs => match t with
  | .no => Q9 P f (AV.rens up1 (s.evs xs)) [] d l s K
  | .keeps ks => Q9 P f (AV.rens up1 (s.evs xs)) ks d l s K
  | .onb _ => False
 | .callX f xs => match t with
  | .no => Kb P s.S (AV.highs ((s.evs xs).map (Fz s.S))) (FE P f ((s.evs xs).map (Fz s.S))) d l s.env K
  | _ => False
 | .callY f xs => match t with
  | .no => Kb P s.S ((s.ev f).high && AV.highs ((s.evs xs).map (Fz s.S))) (C8 P (s.ev f) ((s.evs xs).map (Fz s.S))) d l s.env K
  | _ => False
 | .callN f xs => match t with
  | .no => match outVs s.S (s.evs xs) with
   | some vs => Pn P f vs [] d l s K
   | none => False
  | .keeps ks => match outVs s.S (s.evs xs) with
   | some vs => Pn P f vs ks d l s K
   | none => False
  | .onb _ => False
 | .callS f xs => match t with
  | .no => KM P f (AV.rens up1 (s.evs xs)) s.S [] d l s.env K
  | .keeps ks => KM P f (AV.rens up1 (s.evs xs)) s.S ks d l s.env K
  | .onb _ => False
 | .callV f xs => match (s.ev f).fnOf with
  | some (g, caps) => B9 P g = true ∧ match t with
   | .no => KM P g (AV.rens up1 (s.evs xs ++ caps.map .one)) s.S [] d l s.env K
   | .keeps ks => KM P g (AV.rens up1 (s.evs xs ++ caps.map .one)) s.S ks d l s.env K
   | .onb _ => False
  | _ => False
 | _ => False
def Fs (P : Program) : List Ins → AS → (AS → Prop) → Prop
 | [], s, K => K s
 | i :: l, s, K => match i.kd.isCall with
  | false => match i.guard with
   | none => i.kd.goT P (i.dst.getD 0) s i.tag fun v s' => Fs P l (s'.put i.dst v) K
   | some (g, want) => match s.env g with
    | .one (.st (.bool b)) => (b = want → i.kd.goT P (i.dst.getD 0) s i.tag fun v s' => Fs P l (s'.put i.dst v) K) ∧ (¬ b = want → Fs P l (s.put i.dst (.tup [])) K)
    | .tup [] => Fs P l (s.put i.dst (.tup [])) K
    | _ => False
  | true => match i.guard with
   | none => i.kd.goC P i.dst s i.tag l K
   | some (g, want) => match s.env g with
    | .one (.st (.bool b)) => (b = want → i.kd.goC P i.dst s i.tag l K) ∧ (¬ b = want → Fs P l (s.put i.dst (.tup [])) K)
    | .tup [] => Fs P l (s.put i.dst (.tup [])) K
    | _ => False
section
variable {P : Program}
theorem N8 {kd : Kd} {d : Option Nat} {s : AS} {t : Tag} {l : List Ins} {K : AS → Prop} (h : kd.goC P d s t l K) : kd.goT P (d.getD 0) s t fun v s' => Run P l (s'.put d v) K := by
 cases kd <;> simp only [Kd.goC] at h
 case call f xs =>
  cases t <;> simp only at h
  split at h
  ·rename_i vs e
   obtain ⟨r, h1, h2⟩ := h
   simp only [Kd.goT, Kd.go, e]
   exact ⟨r, h1, trivial, h2⟩
  ·exact h.elim
 case callN f xs =>
  cases t <;> simp only at h
  ·split at h
   ·rename_i vs e
    obtain ⟨mu, ty, w, ys, h1, h2, _, h3⟩ := h
    simp only [Kd.goT, Kd.go, e]
    exact ⟨mu, ty, w, ys, h1, h2, trivial, h3⟩
   ·exact h.elim
  ·split at h
   ·rename_i vs e
    obtain ⟨mu, ty, w, ys, h1, h2, h4, h3⟩ := h
    simp only [Kd.goT, Kd.go, e]
    exact ⟨mu, ty, w, ys, h1, h2, h4, h3⟩
   ·exact h.elim
 case callW f xs =>
  cases t <;> simp only at h
  ·obtain ⟨r, rows, h0, h1, _, h2⟩ := h
   simp only [Kd.goT, Kd.go]
   exact ⟨r, rows, h0, h1, trivial, h2⟩
  ·obtain ⟨r, rows, h0, h1, hk, h2⟩ := h
   simp only [Kd.goT, Kd.go]
   exact ⟨r, rows, h0, h1, hk, h2⟩
 case callX f xs =>
  cases t <;> simp only at h
  obtain ⟨T, Post, h1, h2, h3, h4, h5⟩ := h
  exact ⟨T, Post, h1, h2, h3, h4, fun r S' k1 k2 => ⟨trivial, h5 r S' k1 k2⟩⟩
 case callY f xs =>
  cases t <;> simp only at h
  obtain ⟨T, Post, h1, h2, h3, h4, h5⟩ := h
  exact ⟨T, Post, h1, h2, h3, h4, fun r S' k1 k2 => ⟨trivial, h5 r S' k1 k2⟩⟩
 case callR f xs =>
  cases t <;> simp only at h
  obtain ⟨r, rows, h0, h1, h2⟩ := h
  simp only [Kd.goT, Kd.go]
  exact ⟨r, rows, h0, h1, trivial, h2⟩
 case callS f xs =>
  cases t <;> simp only at h
  ·obtain ⟨r, S', h1, h2, h3⟩ := h
   exact ⟨r, S', h1, trivial, h3⟩
  ·obtain ⟨r, S', h1, h2, h3⟩ := h
   exact ⟨r, S', h1, h2, h3⟩
 case callV f xs =>
  split at h
  ·rename_i g caps e
   obtain ⟨hp, h⟩ := h
   cases t <;> simp only at h
   ·obtain ⟨r, S', h1, h2, h3⟩ := h
    simp only [Kd.goT, Kd.go, e]
    exact ⟨hp, r, S', h1, trivial, h3⟩
   ·obtain ⟨r, S', h1, h2, h3⟩ := h
    simp only [Kd.goT, Kd.go, e]
    exact ⟨hp, r, S', h1, h2, h3⟩
  ·exact h.elim
theorem Bs : ∀ {l : List Ins} {s : AS} {K : AS → Prop}, Fs P l s K → Run P l s K
 | [], s, K, h => h
 | i :: l, s, K, h => by
  unfold Fs at h
  unfold Run
  split at h
  ·split at h
   ·rename_i e
    simp only [e]
    exact D2 h fun v s' _ h' => Bs h'
   ·rename_i g want e
    simp only [e]
    split at h
    ·rename_i b e2
     simp only [e2]
     exact ⟨fun hb => D2 (h.1 hb) fun v s' _ h' => Bs h', fun hb => Bs (h.2 hb)⟩
    ·rename_i e2
     simp only [e2]
     exact Bs h
    ·exact h.elim
  ·split at h
   ·rename_i e
    simp only [e]
    exact N8 h
   ·rename_i g want e
    simp only [e]
    split at h
    ·rename_i b e2
     simp only [e2]
     exact ⟨fun hb => N8 (h.1 hb), fun hb => Bs (h.2 hb)⟩
    ·rename_i e2
     simp only [e2]
     exact Bs h
    ·exact h.elim
theorem HC {l : List Ins} {s : AS} {K : AS → Prop} {A : Prop} (h : A ∧ Fs P l s K) : A ∧ Run P l s K := ⟨h.1, Bs h.2⟩
theorem IWP.ops2 {C : Ctx} {mu : List Nat} {Q : AX → AS → Prop} {s : AS} {l : List Ins} (h : ∀ K : AS → Prop, (∀ s, Q .normal s → K s) → Fs P l s K) : IWP P C mu (.ops l) Q s := IWP.opsK fun K hK => Bs (h K hK)
end
attribute [go_sem] RN Qm QQ Ji Ins.i Ins.m Ins.L Ins.l Ins.f Ins.s Opd.n Hc EZ Fs Kd.isCall Kd.goC Kd.goT Tag.ok Kd.ptrOpd Eo List.forall_mem_cons List.not_mem_nil Kd.go AS.ev AS.evs AS.put AS.set AF AV.cells GA Ct Er stP QA stC stCs outC outCs outV outVs Fa CQ Br B_ Ph Dl PT Ol optI LI splice AH.len AS.start AS.startS noS List.getElem?_cons_zero List.getElem?_cons_succ List.getElem?_nil List.getElem?_map Option.isSome_none Option.isSome_some Option.map_some Option.map_none Option.getD_some Option.getD_none List.length_map List.length_cons List.length_nil List.length_append List.map_cons List.map_nil List.take_succ_cons List.take_zero List.take_nil List.drop_succ_cons List.drop_zero List.drop_nil List.nil_append List.cons_append List.append_nil Nat.zero_add Nat.add_zero Nat.le_refl Nat.zero_le if_true if_false Bool.false_eq_true true_and and_true Option.some.injEq Int.toNat_natCast Int.natCast_nonneg Int.ofNat_eq_natCast ite_self decide_true decide_false not_true_eq_false not_false_eq_true true_implies false_implies implies_true Bool.true_eq_false eq_self Bool.not_true Bool.not_false beq_self_eq_true Tm.args_mk Tm.name_mk AV.rens AV.ren AC.ren AC.rens AH.ren Bt HQ E6 Iq
theorem No (T : AA) (i : Nat) (b : AH) : upS (AF T i (some b)) = AF (upS T) (up1 i) (some (b.ren up1)) := by
 funext k
 show (if k < 1000 then none else (AF T i (some b) (k - 1000)).map (AH.ren up1)) = _
 by_cases e : k = up1 i
 ·subst e
  rw [AB, if_neg (by have := BY i; omega), show up1 i - 1000 = i from HQ i, AB]
  rfl
 ·rw [AD _ e]
  by_cases hk : k < 1000
  ·rw [if_pos hk]
   show none = if k < 1000 then none else _
   rw [if_pos hk]
  ·rw [if_neg hk, AD _ (fun h => e (by rw [← h]; exact (H2 (by omega)).symm))]
   show _ = if k < 1000 then none else _
   rw [if_neg hk]
abbrev Wa := @IWP.seq
abbrev Wb := @E1
abbrev Wc := @IWP.block
abbrev Wd := @IWP.skip
abbrev We := @IWP.exit
abbrev Wg := @Js
abbrev Wh := @LS
abbrev Wi := @El
abbrev Wj := @GB
abbrev Wk := @GS
abbrev Wl := @HO
abbrev Wm := @Jh
abbrev Wn := @Le
abbrev Wo := @IWP.ops2
abbrev Wp := @IWP.cond
abbrev Wq := @Bs
abbrev Wr := @HC
abbrev iC := @Qg
abbrev Cg := @Rt.mk
abbrev dT := @decide_eq_true_eq
abbrev dF := @decide_eq_false_iff_not
abbrev nL := @Int.ofNat_lt
abbrev eT := @OS
abbrev iR := @KS
attribute [go_sem ↓] Ox P9
theorem Ai {a b : Prop} (k : b) (h : a := by first | omega | exact SO | (simp [Bu] <;> omega)) : a ∧ b := ⟨h, k⟩
theorem Z0 {id id' : Nat} {Q : AX → AS → Prop} {s : AS} (h : Q (.exit id') s) (hne : id' ≠ id := by decide) : AX.inBlock id Q (.exit id') s := GS hne h
theorem fN {α : Type} (p : α → Prop) : ∀ x ∈ ([] : List α), p x := List.forall_mem_nil p
class GE (goal : Prop) (prev : outParam Prop) : Prop where
 imp : prev → goal
theorem W {goal prev : Prop} [s : GE goal prev] (h : prev) : goal := s.imp h
section
variable {P : Program} {C : Ctx} {mu : List Nat} {x y : IR} {Q : AX → AS → Prop} {s : AS} {id : Nat} {K : AS → Prop}
instance : GE (IWP P C mu (.seq x y) Q s) (IWP P C mu x (MA P C mu y Q) s) := ⟨IWP.seq⟩
instance : GE (MA P C mu y Q .normal s) (IWP P C mu y Q s) := ⟨E1⟩
instance : GE (IWP P C mu (.block id x) Q s) (IWP P C mu x (AX.inBlock id Q) s) := ⟨IWP.block⟩
instance : GE (IWP P C mu .skip Q s) (Q .normal s) := ⟨IWP.skip⟩
instance : GE (IWP P C mu (.exit id) Q s) (Q (.exit id) s) := ⟨IWP.exit⟩
instance : GE (IWP P C mu .ret Q s) (Q .ret s) := ⟨IWP.ret⟩
instance : GE (MA P C mu y Q (.exit id) s) (Q (.exit id) s) := ⟨Js⟩
instance : GE (MA P C mu y Q .ret s) (Q .ret s) := ⟨LS⟩
instance : GE (AX.inBlock id Q .normal s) (Q .normal s) := ⟨El⟩
instance : GE (AX.inBlock id Q (.exit id) s) (Q .normal s) := ⟨GB⟩
instance : GE (AX.inBlock id Q .ret s) (Q .ret s) := ⟨HO⟩
instance : GE (AX.then K Q (.exit id) s) (Q (.exit id) s) := ⟨Jh⟩
instance : GE (AX.then K Q .ret s) (Q .ret s) := ⟨Le⟩
class Pt (goal : Prop) (prev : outParam Prop) : Prop where
 imp : prev → goal
class Ns (goal : Prop) (prev : outParam Prop) : Prop where
 imp : prev → goal
theorem U {goal prev : Prop} [s : Pt goal prev] (h : prev) : goal := s.imp h
theorem V {goal prev : Prop} [s : Ns goal prev] (h : prev) : goal := s.imp h
instance {l : List Ins} : Pt (Run P l s K) (Fs P l s K) := ⟨Bs⟩
instance {l : List Ins} {A : Prop} : Pt (A ∧ Run P l s K) (A ∧ Fs P l s K) := ⟨HC⟩
instance {l : List Ins} : Ns (Run P l s K) (Fs P l s K) := ⟨Bs⟩
instance {l : List Ins} {A : Prop} : Ns (A ∧ Run P l s K) (A ∧ Fs P l s K) := ⟨HC⟩
instance {c0 : Opd} : Ns (IWP P C mu (.cond c0 x y) Q s) (match s.ev c0 with | .one (.st (.bool b)) => (b = true → IWP P C mu x Q s) ∧ (b = false → IWP P C mu y Q s) | .one .ubool => IWP P C mu x Q s ∧ IWP P C mu y Q s | _ => False) := ⟨IWP.cond⟩
end
theorem IWP.fresh {P : Program} {C : Ctx} {mu : List Nat} {x : IR} {Q : AX → AS → Prop} {s : AS} (h1000 : ∀ i, 1000 ≤ i → s.S i = none) (h : ∀ env' : Nat → AV, (∀ i v, s.env i = .one (.st v) → env' i = .one (.st v)) → IWP P C mu x Q ⟨env', noS⟩) : IWP P C mu x Q s := by
 refine IWP.ghost (Ae.low (s := s) fun i b hi hb => by rw [h1000 i hi] at hb; cases hb) ?_
 have e : C9 s.S = noS := by
  funext i
  show (if i < 1000 then none else s.S i) = none
  split
  ·rfl
  ·exact h1000 i (by omega)
 rw [e]
 exact h _ fun i v hv => by rw [hv]; rfl
theorem IWP.mid {P : Program} {C : Ctx} {mu : List Nat} {x y : IR} {Q : AX → AS → Prop} {s : AS} (M : AS → Prop) (h1 : IWP P C mu x (fun e s => e = .normal ∧ M s) s) (h2 : ∀ s, M s → IWP P C mu y Q s) : IWP P C mu (x.seq y) Q s :=
 IWP.seq (h1.mono fun e s ⟨he, hm⟩ => by subst he; exact E1 (h2 s hm))



structure Mv where
 name : ByteArray
 frm : List Int
 to_ : Int
structure Au where
 states : Int
 moves : List Mv
 last : List Int
def inS (S : Int) (s : Int) : Bool := decide (0 ≤ s) && decide (s < S)
def Mv.err (S : Int) (m : Mv) : Int := if A8 m.name = true ∧ Cs m.name = false then (if 4 < m.frm.length then 3 else if m.frm.all (inS S) = true ∧ inS S m.to_ = true then 0 else 10) else 1
def BC (S : Int) : List Mv → Int
 | [] => 0
 | m :: ms => if m.err S = 0 then BC S ms else m.err S
def Au.may (a : Au) (S M : Int) : Int := if a.states < 0 ∨ S < a.states ∨ M < a.moves.length then 3 else if BC a.states a.moves = 0 then (if a.last.all (inS a.states) = true then 0 else 10) else BC a.states a.moves
theorem Fc (S : Int) (xs ys : List Mv) : BC S (xs ++ ys) = if BC S xs = 0 then BC S ys else BC S xs := by
 induction xs with
 | nil => simp [BC]
 | cons x xs ih =>
  simp only [List.cons_append, BC, ih]
  by_cases h : x.err S = 0
  ·simp [h]
  ·simp [h]
theorem Df {S : Int} {xs : List Mv} {k : Nat} {m : Mv} (hm : xs[k]? = some m) (h : BC S (xs.take k) = 0) : BC S (xs.take (k + 1)) = m.err S := by
 rw [Af hm, Fc, if_pos h]
 simp only [BC]
 split
 ·rename_i h1
  rw [h1]
 ·rfl
theorem O3 {S : Int} {xs : List Mv} {k : Nat} (h : ¬ BC S (xs.take k) = 0) : BC S xs = BC S (xs.take k) := by
 have := Fc S (xs.take k) (xs.drop k)
 rw [List.take_append_drop, if_neg h] at this
 exact this
theorem KA {S : Int} : ∀ {xs : List Mv}, BC S xs = 0 ↔ ∀ m ∈ xs, m.err S = 0
 | [] => by simp [BC]
 | x :: xs => by
  rw [BC]
  by_cases h : x.err S = 0
  ·rw [if_pos h, KA]
   simp [h]
  ·rw [if_neg h]
   simp [h]
theorem Mv.err_ok {S : Int} {m : Mv} : m.err S = 0 ↔ (A8 m.name = true ∧ Cs m.name = false) ∧ m.frm.length ≤ 4 ∧ m.frm.all (inS S) = true ∧ inS S m.to_ = true := by
 unfold Mv.err
 by_cases h1 : A8 m.name = true ∧ Cs m.name = false
 ·rw [if_pos h1]
  by_cases h2 : 4 < m.frm.length
  ·rw [if_pos h2]
   constructor
   ·intro h; cases h
   ·intro h; omega
  ·rw [if_neg h2]
   by_cases h3 : m.frm.all (inS S) = true ∧ inS S m.to_ = true
   ·rw [if_pos h3]
    exact ⟨fun _ => ⟨h1, by omega, h3⟩, fun _ => rfl⟩
   ·rw [if_neg h3]
    constructor
    ·intro h; cases h
    ·intro h; exact absurd h.2.2 h3
 ·rw [if_neg h1]
  constructor
  ·intro h; cases h
  ·intro h; exact absurd h.1 h1
theorem Au.may_ok {a : Au} {S M : Int} : a.may S M = 0 ↔ (0 ≤ a.states ∧ a.states ≤ S ∧ a.moves.length ≤ M) ∧ (∀ m ∈ a.moves, m.err a.states = 0) ∧ a.last.all (inS a.states) = true := by
 unfold Au.may
 by_cases h1 : a.states < 0 ∨ S < a.states ∨ M < a.moves.length
 ·rw [if_pos h1]
  constructor
  ·intro h; cases h
  ·intro h; omega
 ·rw [if_neg h1, ← KA]
  by_cases h2 : BC a.states a.moves = 0
  ·rw [if_pos h2]
   by_cases h3 : a.last.all (inS a.states) = true
   ·rw [if_pos h3]
    exact ⟨fun _ => ⟨by omega, h2, h3⟩, fun _ => rfl⟩
   ·rw [if_neg h3]
    constructor
    ·intro h; cases h
    ·intro h; exact absurd h.2.2 h3
  ·rw [if_neg h2]
   constructor
   ·intro h; exact absurd h h2
   ·intro h; exact absurd h.2.1 h2
theorem EV {S s : Int} : inS S s = true ↔ 0 ≤ s ∧ s < S := by simp [inS]
def CD : List (List Bool) → List Int → Bool
 | b :: bs, s :: ss => b.getD s.toNat false && CD bs ss
 | [], [] => true
 | _, _ => false
def Mv.fits (m : Mv) (n : ByteArray) (below : List (List Bool)) : Bool := decide (m.name = n) && CD below m.frm
def Bm (n : ByteArray) (below : List (List Bool)) (out : List Bool) (m : Mv) : List Bool := if m.fits n below = true then out.set m.to_.toNat true else out
def Au.ending (a : Au) (n : ByteArray) (below : List (List Bool)) : List Bool := a.moves.foldl (Bm n below) (List.replicate a.states.toNat false)
mutual
def Au.ends (a : Au) : Tm → List Bool
 | .mk n xs => a.ending n (a.endsL xs)
def Au.endsL (a : Au) : List Tm → List (List Bool)
 | [] => []
 | t :: ts => a.ends t :: a.endsL ts
end
theorem Au.ends_eq (a : Au) (t : Tm) : a.ends t = a.ending t.name (a.endsL t.args) := by cases t; rfl
theorem Au.endsL_eq (a : Au) : ∀ ts : List Tm, a.endsL ts = ts.map a.ends
 | [] => rfl
 | t :: ts => by rw [Au.endsL, Au.endsL_eq a ts]; rfl
def Au.acc (a : Au) (t : Tm) : Bool := a.last.any fun s => (a.ends t).getD s.toNat false
theorem Kw (n : ByteArray) (below : List (List Bool)) (out : List Bool) (m : Mv) : (Bm n below out m).length = out.length := by
 unfold Bm
 split <;> simp
theorem Dd (n : ByteArray) (below : List (List Bool)) : ∀ (ms : List Mv) (out : List Bool), (ms.foldl (Bm n below) out).length = out.length
 | [], _ => rfl
 | m :: ms, out => by rw [List.foldl_cons, Dd n below ms, Kw]
theorem Au.ending_length (a : Au) (n : ByteArray) (below : List (List Bool)) : (a.ending n below).length = a.states.toNat := by
 unfold Au.ending
 rw [Dd]
 simp
theorem Au.ends_length (a : Au) (t : Tm) : (a.ends t).length = a.states.toNat := by rw [Au.ends_eq, Au.ending_length]
structure Au.Good (a : Au) : Prop where
 states : 0 ≤ a.states
 to_ : ∀ m ∈ a.moves, 0 ≤ m.to_ ∧ m.to_ < a.states
 frm : ∀ m ∈ a.moves, ∀ s ∈ m.frm, 0 ≤ s ∧ s < a.states
 last : ∀ s ∈ a.last, 0 ≤ s ∧ s < a.states
theorem Au.may_good {a : Au} {S M : Int} (h : a.may S M = 0) : a.Good := by
 obtain ⟨h1, h2, h3⟩ := Au.may_ok.1 h
 refine ⟨h1.1, fun m hm => ?_, fun m hm s hs => ?_, fun s hs => ?_⟩
 ·exact EV.1 (Mv.err_ok.1 (h2 m hm)).2.2.2
 ·exact EV.1 (List.all_eq_true.1 (Mv.err_ok.1 (h2 m hm)).2.2.1 s hs)
 ·exact EV.1 (List.all_eq_true.1 h3 s hs)

set_option maxRecDepth 100000
def CC : IR :=
 (.seq (.ops [.i 2 (.mov (.c (.one (.full []))))]) (.seq (.seq (.ops [.m 3 0, .i 4 (.eqN false (.t 3))]) (.cond (.t 4) (.seq (.ops [.i 2 (.mov (.c (.one (.full []))))]) .ret) .skip)) (.seq (.ops [.i 5 (.buildFlat []), .m 6 0, .i 7 (.append false 3 1 8 (.t 5) (.t 6)), .m 2 7]) .ret)))
theorem Dz : OkF Try.prog 49 8 [] CC [.t 2] := .of Try.func49 rfl rfl (by kernel_rfl) rfl
def BU : IR :=
 (.seq (.ops [.i 4 (.mov (.c (.one (.st (.bool false)))))]) (.seq (.ops [.m 5 0, .m 6 1, .i 7 (.callS 87 [.t 5, .t 6]), .i 8 (.bin .geq (.t 7) (.n 0)), .m 4 8]) .ret))
theorem Ch : OkF Try.prog 71 9 [7] BU [.t 4] := .of Try.func71 rfl rfl (by kernel_rfl) rfl
def Bo : IR :=
 (.seq (.ops [.i 4 (.mov (.n 0))]) (.seq (.seq (.ops [.m 6 0, .i 7 (.len false (.t 6)), .i 8 (.mov (.n 0))]) (.block 0 (.loop (.seq (.ops [.i 9 (.bin .lss (.t 8) (.t 7))]) (.seq (.cond (.t 9) .skip (.exit 0)) (.seq (.block 1 (.seq (.ops [.m 10 8, .m 5 10]) (.seq (.ops [.m 11 1, .m 12 0, .m 13 5, .i 14 (.indexAddr 1 (.t 12) (.t 13)), .l 15 14, .i 16 (.callV (.t 11) [.t 15])]) (.cond (.t 16) (.seq (.ops [.m 17 5, .m 4 17]) .ret) .skip)))) (.ops [.i 18 (.bin .add (.t 8) (.n 1)), .m 8 18]))))))) (.seq (.ops [.i 4 (.mov (.c (.one (.st (.int .i64 (-1))))))]) .ret)))
theorem C_ : OkF Try.prog 87 19 [] Bo [.t 4] := .of Try.func87 rfl rfl (by kernel_rfl) rfl
def Di : IR :=
 (.seq (.ops [.i 3 (.mov (.c (.one (.st (.bool false)))))]) (.seq (.ops [.m 4 0, .i 5 (.bin .lss (.t 4) (.n 0)), .m 6 5, .mk (some 7) (some (6, false)) (.mov (.t 0)) .no, .mk (some 8) (some (6, false)) (.fieldAddr 0 (.t 1)) .no, .mk (some 9) (some (6, false)) (.load false 1 (.t 8)) .no, .mk (some 10) (some (6, false)) (.bin .geq (.t 7) (.t 9)) .no, .i 11 (.pick (.t 6) (.c (.one (.st (.bool true)))) (.t 10)), .m 3 11]) .ret))
theorem GR : OkF Try.prog 72 12 [] Di [.t 3] := .of Try.func72 rfl rfl (by kernel_rfl) rfl
def Bc : IR :=
 (.seq (.ops [.i 3 (.box 25 (.t 0)), .i 6 (.mov (.n 0))]) (.seq (.seq (.ops [.f 11 0 3, .l 12 11, .i 13 (.bin .lss (.t 12) (.n 0)), .m 14 13, .mk (some 15) (some (14, false)) (.fieldAddr 0 (.t 3)) .no, .mk (some 16) (some (14, false)) (.load false 1 (.t 15)) .no, .mk (some 17) (some (14, false)) (.mov (.t 1)) .no, .mk (some 18) (some (14, false)) (.bin .gtr (.t 16) (.t 17)) .no, .i 19 (.pick (.t 14) (.c (.one (.st (.bool true)))) (.t 18)), .m 20 19, .mk (some 21) (some (20, false)) (.fieldAddr 1 (.t 3)) .no, .mk (some 22) (some (20, false)) (.load false 1 (.t 21)) .no, .mk (some 23) (some (20, false)) (.len false (.t 22)) .no, .mk (some 24) (some (20, false)) (.mov (.t 2)) .no, .mk (some 25) (some (20, false)) (.bin .gtr (.t 23) (.t 24)) .no, .i 26 (.pick (.t 20) (.c (.one (.st (.bool true)))) (.t 25))]) (.cond (.t 26) (.seq (.ops [.i 6 (.mov (.n 3))]) .ret) .skip)) (.seq (.seq (.ops [.f 27 1 3, .l 28 27, .i 29 (.len false (.t 28)), .i 30 (.mov (.n 0))]) (.block 0 (.loop (.seq (.ops [.i 31 (.bin .lss (.t 30) (.t 29))]) (.seq (.cond (.t 31) .skip (.exit 0)) (.seq (.block 1 (.seq (.ops [.i 32 (.indexAddr 3 (.t 28) (.t 30)), .L 33 3 32, .i 8 (.alloc 46 [.st (.str (ByteArray.mk (#[]))), .full [], .st (.int .i64 0)]), .s 3 8 33]) (.seq (.seq (.ops [.f 34 0 8, .l 35 34, .i 36 (.call 69 [.t 35]), .i 37 (.un .not (.t 36)), .m 38 37, .mk (some 39) (some (38, false)) (.fieldAddr 0 (.t 8)) .no, .mk (some 40) (some (38, false)) (.load false 1 (.t 39)) .no, .mk (some 41) (some (38, false)) (.call 70 [.t 40]) .no, .i 42 (.pick (.t 38) (.c (.one (.st (.bool true)))) (.t 41))]) (.cond (.t 42) (.seq (.ops [.i 6 (.mov (.n 1))]) .ret) .skip)) (.seq (.seq (.ops [.f 43 1 8, .l 44 43, .i 45 (.len false (.t 44)), .i 46 (.bin .gtr (.t 45) (.n 4))]) (.cond (.t 46) (.seq (.ops [.i 6 (.mov (.n 3))]) .ret) .skip)) (.seq (.ops [.f 47 1 8, .l 48 47, .mk (some 49) none (.callN 49 [.t 48]) (.keeps [8, 8]), .mk (some 50) none (.fieldAddr 2 (.t 8)) (.onb 8), .mk (some 51) none (.load false 1 (.t 50)) (.onb 8), .i 52 (.buildFlat [.t 51]), .i 53 (.append false 3 1 8 (.t 49) (.t 52)), .i 54 (.len false (.t 53)), .i 55 (.mov (.n 0))]) (.block 2 (.loop (.seq (.ops [.i 56 (.bin .lss (.t 55) (.t 54))]) (.seq (.cond (.t 56) .skip (.exit 2)) (.seq (.block 3 (.seq (.ops [.i 57 (.indexAddr 1 (.t 53) (.t 55)), .l 58 57, .m 10 58]) (.seq (.ops [.m 59 10, .i 60 (.bin .lss (.t 59) (.n 0)), .m 61 60, .mk (some 62) (some (61, false)) (.mov (.t 10)) .no, .mk (some 63) (some (61, false)) (.fieldAddr 0 (.t 3)) .no, .mk (some 64) (some (61, false)) (.load false 1 (.t 63)) .no, .mk (some 65) (some (61, false)) (.bin .geq (.t 62) (.t 64)) .no, .i 66 (.pick (.t 61) (.c (.one (.st (.bool true)))) (.t 65))]) (.cond (.t 66) (.seq (.ops [.i 6 (.mov (.n 10))]) .ret) .skip)))) (.ops [.i 67 (.bin .add (.t 55) (.n 1)), .m 55 67]))))))))))) (.ops [.i 68 (.bin .add (.t 30) (.n 1)), .m 30 68]))))))) (.seq (.seq (.ops [.f 69 2 3, .l 70 69, .i 71 (.makeFunc 72 [.t 3]), .i 72 (.callS 71 [.t 70, .t 71])]) (.cond (.t 72) (.seq (.ops [.i 6 (.mov (.n 10))]) .ret) .skip)) (.seq (.ops [.i 6 (.mov (.n 0))]) .ret)))))
theorem B8 : OkF Try.prog 56 73 [20000049, 72] Bc [.t 6] := .of Try.func56 rfl rfl (by kernel_rfl) rfl
def Ff : IR :=
 (.seq (.ops [.i 1 (.box 25 (.t 0)), .i 2 (.mov (.n 0))]) (.seq (.ops [.L 3 3 1, .i 4 (.call 56 [.t 3, .n 8, .n 40]), .m 2 4]) .ret))
theorem JM : OkF Try.prog 34 5 [] Ff [.t 2] := .of Try.func34 rfl rfl (by kernel_rfl) rfl
def ES : IR :=
 (.seq (.ops [.i 2 (.box 25 (.t 0)), .i 3 (.box 25 (.t 1)), .i 4 (.mov (.n 0))]) (.seq (.seq (.ops [.L 6 3 2, .i 7 (.call 34 [.t 6]), .m 5 7]) (.seq (.ops [.m 8 5, .i 9 (.bin .neq (.t 8) (.n 0))]) (.cond (.t 9) (.seq (.ops [.m 10 5, .m 4 10]) .ret) .skip))) (.seq (.ops [.L 11 3 3, .i 12 (.call 34 [.t 11]), .m 4 12]) .ret)))
theorem GX : OkF Try.prog 29 13 [] ES [.t 4] := .of Try.func29 rfl rfl (by kernel_rfl) rfl
def CN : IR :=
 (.seq (.ops [.i 3 (.box 25 (.t 0)), .i 6 (.mov (.n 0))]) (.seq (.seq (.ops [.f 11 0 3, .l 12 11, .i 13 (.bin .lss (.t 12) (.n 0)), .m 14 13, .mk (some 15) (some (14, false)) (.fieldAddr 0 (.t 3)) .no, .mk (some 16) (some (14, false)) (.load false 1 (.t 15)) .no, .mk (some 17) (some (14, false)) (.mov (.t 1)) .no, .mk (some 18) (some (14, false)) (.bin .gtr (.t 16) (.t 17)) .no, .i 19 (.pick (.t 14) (.c (.one (.st (.bool true)))) (.t 18)), .m 20 19, .mk (some 21) (some (20, false)) (.fieldAddr 1 (.t 3)) .no, .mk (some 22) (some (20, false)) (.load false 1 (.t 21)) .no, .mk (some 23) (some (20, false)) (.len false (.t 22)) .no, .mk (some 24) (some (20, false)) (.mov (.t 2)) .no, .mk (some 25) (some (20, false)) (.bin .gtr (.t 23) (.t 24)) .no, .i 26 (.pick (.t 20) (.c (.one (.st (.bool true)))) (.t 25))]) (.cond (.t 26) (.seq (.ops [.i 6 (.mov (.n 3))]) .ret) .skip)) (.seq (.seq (.ops [.i 7 (.mov (.n 0))]) (.block 0 (.loop (.seq (.seq (.ops [.m 27 7, .f 28 1 3, .l 29 28, .i 30 (.len false (.t 29)), .i 31 (.bin .lss (.t 27) (.t 30))]) (.cond (.t 31) .skip (.exit 0))) (.seq (.block 1 (.seq (.ops [.f 34 1 3, .l 35 34, .m 36 7, .i 37 (.indexAddr 3 (.t 35) (.t 36)), .L 38 3 37, .i 8 (.alloc 46 [.st (.str (ByteArray.mk (#[]))), .full [], .st (.int .i64 0)]), .s 3 8 38]) (.seq (.seq (.ops [.f 39 0 8, .l 40 39, .i 41 (.call 22 [.t 40]), .i 42 (.un .not (.t 41)), .m 43 42, .mk (some 44) (some (43, false)) (.fieldAddr 0 (.t 8)) .no, .mk (some 45) (some (43, false)) (.load false 1 (.t 44)) .no, .mk (some 46) (some (43, false)) (.call 23 [.t 45]) .no, .i 47 (.pick (.t 43) (.c (.one (.st (.bool true)))) (.t 46))]) (.cond (.t 47) (.seq (.ops [.i 6 (.mov (.n 1))]) .ret) .skip)) (.seq (.seq (.ops [.f 48 1 8, .l 49 48, .i 50 (.len false (.t 49)), .i 51 (.bin .gtr (.t 50) (.n 4))]) (.cond (.t 51) (.seq (.ops [.i 6 (.mov (.n 3))]) .ret) .skip)) (.seq (.seq (.ops [.i 9 (.mov (.n 0))]) (.block 2 (.loop (.seq (.seq (.ops [.m 52 9, .f 53 1 8, .l 54 53, .i 55 (.len false (.t 54)), .i 56 (.bin .lss (.t 52) (.t 55))]) (.cond (.t 56) .skip (.exit 2))) (.seq (.block 3 (.seq (.ops [.f 59 1 8, .l 60 59, .m 61 9, .i 62 (.indexAddr 1 (.t 60) (.t 61)), .l 63 62, .i 64 (.bin .lss (.t 63) (.n 0)), .m 65 64, .mk (some 66) (some (65, false)) (.fieldAddr 1 (.t 8)) .no, .mk (some 67) (some (65, false)) (.load false 1 (.t 66)) .no, .mk (some 68) (some (65, false)) (.mov (.t 9)) .no, .mk (some 69) (some (65, false)) (.indexAddr 1 (.t 67) (.t 68)) .no, .mk (some 70) (some (65, false)) (.load false 1 (.t 69)) .no, .mk (some 71) (some (65, false)) (.fieldAddr 0 (.t 3)) .no, .mk (some 72) (some (65, false)) (.load false 1 (.t 71)) .no, .mk (some 73) (some (65, false)) (.bin .geq (.t 70) (.t 72)) .no, .i 74 (.pick (.t 65) (.c (.one (.st (.bool true)))) (.t 73))]) (.cond (.t 74) (.seq (.ops [.i 6 (.mov (.n 10))]) .ret) .skip))) (.ops [.m 57 9, .i 58 (.bin .add (.t 57) (.n 1)), .m 9 58])))))) (.seq (.ops [.f 75 2 8, .l 76 75, .i 77 (.bin .lss (.t 76) (.n 0)), .m 78 77, .mk (some 79) (some (78, false)) (.fieldAddr 2 (.t 8)) .no, .mk (some 80) (some (78, false)) (.load false 1 (.t 79)) .no, .mk (some 81) (some (78, false)) (.fieldAddr 0 (.t 3)) .no, .mk (some 82) (some (78, false)) (.load false 1 (.t 81)) .no, .mk (some 83) (some (78, false)) (.bin .geq (.t 80) (.t 82)) .no, .i 84 (.pick (.t 78) (.c (.one (.st (.bool true)))) (.t 83))]) (.cond (.t 84) (.seq (.ops [.i 6 (.mov (.n 10))]) .ret) .skip))))))) (.ops [.m 32 7, .i 33 (.bin .add (.t 32) (.n 1)), .m 7 33])))))) (.seq (.seq (.ops [.i 10 (.mov (.n 0))]) (.block 4 (.loop (.seq (.seq (.ops [.m 85 10, .f 86 2 3, .l 87 86, .i 88 (.len false (.t 87)), .i 89 (.bin .lss (.t 85) (.t 88))]) (.cond (.t 89) .skip (.exit 4))) (.seq (.block 5 (.seq (.ops [.f 92 2 3, .l 93 92, .m 94 10, .i 95 (.indexAddr 1 (.t 93) (.t 94)), .l 96 95, .i 97 (.bin .lss (.t 96) (.n 0)), .m 98 97, .mk (some 99) (some (98, false)) (.fieldAddr 2 (.t 3)) .no, .mk (some 100) (some (98, false)) (.load false 1 (.t 99)) .no, .mk (some 101) (some (98, false)) (.mov (.t 10)) .no, .mk (some 102) (some (98, false)) (.indexAddr 1 (.t 100) (.t 101)) .no, .mk (some 103) (some (98, false)) (.load false 1 (.t 102)) .no, .mk (some 104) (some (98, false)) (.fieldAddr 0 (.t 3)) .no, .mk (some 105) (some (98, false)) (.load false 1 (.t 104)) .no, .mk (some 106) (some (98, false)) (.bin .geq (.t 103) (.t 105)) .no, .i 107 (.pick (.t 98) (.c (.one (.st (.bool true)))) (.t 106))]) (.cond (.t 107) (.seq (.ops [.i 6 (.mov (.n 10))]) .ret) .skip))) (.ops [.m 90 10, .i 91 (.bin .add (.t 90) (.n 1)), .m 10 91])))))) (.seq (.ops [.i 6 (.mov (.n 0))]) .ret)))))
theorem DB : OkF Try.prog 8 108 [] CN [.t 6] := .of Try.func8 rfl rfl (by kernel_rfl) rfl
def HS : IR :=
 (.seq (.ops [.i 2 (.box 25 (.t 0)), .i 3 (.box 39 (.t 1)), .i 4 (.mov (.c (.one (.full []))))]) (.seq (.ops [.i 5 (.mov (.c (.one (.full []))))]) (.seq (.seq (.ops [.i 6 (.mov (.n 0))]) (.block 0 (.loop (.seq (.seq (.ops [.m 7 6, .f 8 1 3, .l 9 8, .i 10 (.len false (.t 9)), .i 11 (.bin .lss (.t 7) (.t 10))]) (.cond (.t 11) .skip (.exit 0))) (.seq (.block 1 (.ops [.m 14 5, .L 15 3 2, .f 16 1 3, .l 17 16, .m 18 6, .i 19 (.indexAddr 2 (.t 17) (.t 18)), .L 20 2 19, .i 21 (.call 26 [.t 15, .t 20]), .i 22 (.buildSlice false 55 1 [.t 21]), .i 23 (.append false 55 1 24 (.t 14) (.t 22)), .m 5 23])) (.ops [.m 12 6, .i 13 (.bin .add (.t 12) (.n 1)), .m 6 13])))))) (.seq (.ops [.L 24 3 2, .f 25 0 3, .l 26 25, .m 27 5, .i 28 (.call 52 [.t 24, .t 26, .t 27]), .m 4 28]) .ret))))
theorem Mh : OkF Try.prog 26 29 [] HS [.t 4] := .of Try.func26 rfl rfl (by kernel_rfl) rfl
def HX : IR :=
 (.seq (.ops [.i 3 (.box 25 (.t 0)), .i 6 (.mov (.c (.one (.full []))))]) (.seq (.ops [.f 12 0 3, .l 13 12, .i 14 (.makeSlice 4 1 1 [.bool false] (.t 13) (.t 13)), .m 7 14]) (.seq (.seq (.ops [.i 8 (.mov (.n 0))]) (.block 0 (.loop (.seq (.seq (.ops [.m 15 8, .f 16 1 3, .l 17 16, .i 18 (.len false (.t 17)), .i 19 (.bin .lss (.t 15) (.t 18))]) (.cond (.t 19) .skip (.exit 0))) (.seq (.block 1 (.seq (.ops [.f 22 1 3, .l 23 22, .m 24 8, .i 25 (.indexAddr 3 (.t 23) (.t 24)), .L 26 3 25, .i 9 (.alloc 46 [.st (.str (ByteArray.mk (#[]))), .full [], .st (.int .i64 0)]), .s 3 9 26]) (.seq (.seq (.ops [.f 27 0 9, .l 28 27, .m 29 1, .i 30 (.bin .neq (.t 28) (.t 29)), .m 31 30, .mk (some 32) (some (31, false)) (.fieldAddr 1 (.t 9)) .no, .mk (some 33) (some (31, false)) (.load false 1 (.t 32)) .no, .mk (some 34) (some (31, false)) (.len false (.t 33)) .no, .mk (some 35) (some (31, false)) (.mov (.t 2)) .no, .mk (some 36) (some (31, false)) (.len false (.t 35)) .no, .mk (some 37) (some (31, false)) (.bin .neq (.t 34) (.t 36)) .no, .i 38 (.pick (.t 31) (.c (.one (.st (.bool true)))) (.t 37))]) (.cond (.t 38) (.exit 1) .skip)) (.seq (.ops [.i 10 (.mov (.c (.one (.st (.bool true)))))]) (.seq (.seq (.ops [.i 11 (.mov (.n 0))]) (.block 2 (.loop (.seq (.seq (.ops [.m 39 11, .m 40 2, .i 41 (.len false (.t 40)), .i 42 (.bin .lss (.t 39) (.t 41))]) (.cond (.t 42) .skip (.exit 2))) (.seq (.block 3 (.ops [.m 45 10, .m 46 45, .mk (some 47) (some (46, true)) (.mov (.t 2)) .no, .mk (some 48) (some (46, true)) (.mov (.t 11)) .no, .mk (some 49) (some (46, true)) (.indexAddr 1 (.t 47) (.t 48)) .no, .mk (some 50) (some (46, true)) (.load false 1 (.t 49)) .no, .mk (some 51) (some (46, true)) (.fieldAddr 1 (.t 9)) .no, .mk (some 52) (some (46, true)) (.load false 1 (.t 51)) .no, .mk (some 53) (some (46, true)) (.mov (.t 11)) .no, .mk (some 54) (some (46, true)) (.indexAddr 1 (.t 52) (.t 53)) .no, .mk (some 55) (some (46, true)) (.load false 1 (.t 54)) .no, .mk (some 56) (some (46, true)) (.indexAddr 1 (.t 50) (.t 55)) .no, .mk (some 57) (some (46, true)) (.load false 1 (.t 56)) .no, .i 58 (.pick (.t 46) (.t 57) (.c (.one (.st (.bool false))))), .m 10 58])) (.ops [.m 43 11, .i 44 (.bin .add (.t 43) (.n 1)), .m 11 44])))))) (.seq (.ops [.m 59 10]) (.cond (.t 59) (.ops [.m 60 7, .f 61 2 9, .l 62 61, .i 63 (.indexAddr 1 (.t 60) (.t 62)), .mk none none (.store 1 (.t 63) (.c (.one (.st (.bool true))))) .no]) .skip))))))) (.ops [.m 20 8, .i 21 (.bin .add (.t 20) (.n 1)), .m 8 21])))))) (.seq (.ops [.m 64 7, .m 6 64]) .ret))))
theorem L3 : OkF Try.prog 52 65 [] HX [.t 6] := .of Try.func52 rfl rfl (by kernel_rfl) rfl
def Ig : IR :=
 (.seq (.ops [.i 2 (.box 25 (.t 0)), .i 4 (.mov (.c (.one (.st (.bool false)))))]) (.seq (.seq (.ops [.i 5 (.mov (.n 0))]) (.block 0 (.loop (.seq (.seq (.ops [.m 6 5, .f 7 2 2, .l 8 7, .i 9 (.len false (.t 8)), .i 10 (.bin .lss (.t 6) (.t 9))]) (.cond (.t 10) .skip (.exit 0))) (.seq (.block 1 (.seq (.ops [.m 13 1, .f 14 2 2, .l 15 14, .m 16 5, .i 17 (.indexAddr 1 (.t 15) (.t 16)), .l 18 17, .i 19 (.indexAddr 1 (.t 13) (.t 18)), .l 20 19]) (.cond (.t 20) (.seq (.ops [.i 4 (.mov (.c (.one (.st (.bool true)))))]) .ret) .skip))) (.ops [.m 11 5, .i 12 (.bin .add (.t 11) (.n 1)), .m 5 12])))))) (.seq (.ops [.i 4 (.mov (.c (.one (.st (.bool false)))))]) .ret)))
theorem M0 : OkF Try.prog 53 21 [] Ig [.t 4] := .of Try.func53 rfl rfl (by kernel_rfl) rfl
def Es : IR :=
 (.seq (.ops [.i 2 (.box 25 (.t 0)), .i 3 (.box 39 (.t 1)), .i 4 (.mov (.c (.one (.st (.bool false)))))]) (.seq (.ops [.L 5 3 2, .L 6 3 2, .L 7 2 3, .i 8 (.call 26 [.t 6, .t 7]), .i 9 (.call 53 [.t 5, .t 8]), .m 4 9]) .ret))
theorem IH : OkF Try.prog 27 10 [] Es [.t 4] := .of Try.func27 rfl rfl (by kernel_rfl) rfl
def FY : IR :=
 (.seq (.ops [.i 1 (.box 25 (.t 0)), .i 2 (.mov (.c (.one (.st (.bool false)))))]) (.seq (.seq (.ops [.i 3 (.mov (.n 0))]) (.block 0 (.loop (.seq (.seq (.ops [.m 4 3, .f 5 1 1, .l 6 5, .i 7 (.len false (.t 6)), .i 8 (.bin .lss (.t 4) (.t 7))]) (.cond (.t 8) .skip (.exit 0))) (.seq (.block 1 (.seq (.ops [.f 11 1 1, .l 12 11, .m 13 3, .i 14 (.indexAddr 3 (.t 12) (.t 13)), .f 15 1 14, .l 16 15, .i 17 (.len false (.t 16)), .i 18 (.bin .gtr (.t 17) (.n 50))]) (.cond (.t 18) (.seq (.ops [.i 2 (.mov (.c (.one (.st (.bool true)))))]) .ret) .skip))) (.ops [.m 9 3, .i 10 (.bin .add (.t 9) (.n 1)), .m 3 10])))))) (.seq (.ops [.f 19 1 1, .l 20 19, .i 21 (.len false (.t 20)), .i 22 (.bin .gtr (.t 21) (.n 100)), .m 23 22, .mk (some 24) (some (23, false)) (.fieldAddr 2 (.t 1)) .no, .mk (some 25) (some (23, false)) (.load false 1 (.t 24)) .no, .mk (some 26) (some (23, false)) (.len false (.t 25)) .no, .mk (some 27) (some (23, false)) (.bin .gtr (.t 26) (.n 100)) .no, .i 28 (.pick (.t 23) (.c (.one (.st (.bool true)))) (.t 27)), .m 2 28]) .ret)))
theorem JE : OkF Try.prog 7 29 [] FY [.t 2] := .of Try.func7 rfl rfl (by kernel_rfl) rfl

def E4 : IR :=
 (.seq (.ops [.i 2 (.mov (.c (.one (.st (.bool false)))))]) (.seq (.ops [.m 3 0, .i 4 (.bin .geq (.t 3) (.c (.one (.st (.int .u8 97))))), .m 5 4, .mk (some 6) (some (5, true)) (.mov (.t 0)) .no, .mk (some 7) (some (5, true)) (.bin .leq (.t 6) (.c (.one (.st (.int .u8 122))))) .no, .i 8 (.pick (.t 5) (.t 7) (.c (.one (.st (.bool false))))), .m 9 8, .mk (some 10) (some (9, false)) (.mov (.t 0)) .no, .mk (some 11) (some (9, false)) (.bin .geq (.t 10) (.c (.one (.st (.int .u8 65))))) .no, .mk (some 12) (some (9, false)) (.mov (.t 11)) .no, .mk (some 13) (some (12, true)) (.mov (.t 0)) .no, .mk (some 14) (some (12, true)) (.bin .leq (.t 13) (.c (.one (.st (.int .u8 90))))) .no, .mk (some 15) (some (9, false)) (.pick (.t 12) (.t 14) (.c (.one (.st (.bool false))))) .no, .i 16 (.pick (.t 9) (.c (.one (.st (.bool true)))) (.t 15)), .m 17 16, .mk (some 18) (some (17, false)) (.mov (.t 0)) .no, .mk (some 19) (some (17, false)) (.bin .geq (.t 18) (.c (.one (.st (.int .u8 48))))) .no, .mk (some 20) (some (17, false)) (.mov (.t 19)) .no, .mk (some 21) (some (20, true)) (.mov (.t 0)) .no, .mk (some 22) (some (20, true)) (.bin .leq (.t 21) (.c (.one (.st (.int .u8 57))))) .no, .mk (some 23) (some (17, false)) (.pick (.t 20) (.t 22) (.c (.one (.st (.bool false))))) .no, .i 24 (.pick (.t 17) (.c (.one (.st (.bool true)))) (.t 23)), .m 2 24]) .ret))
theorem IQ : OkF Try.prog 86 25 [] E4 [.t 2] := .of Try.func86 rfl rfl (by kernel_rfl) rfl
def Fd : IR :=
 (.seq (.ops [.i 2 (.mov (.c (.one (.st (.bool false)))))]) (.seq (.ops [.m 3 0, .i 4 (.bin .geq (.t 3) (.c (.one (.st (.int .u8 97))))), .m 5 4, .mk (some 6) (some (5, true)) (.mov (.t 0)) .no, .mk (some 7) (some (5, true)) (.bin .leq (.t 6) (.c (.one (.st (.int .u8 122))))) .no, .i 8 (.pick (.t 5) (.t 7) (.c (.one (.st (.bool false))))), .m 9 8, .mk (some 10) (some (9, false)) (.mov (.t 0)) .no, .mk (some 11) (some (9, false)) (.bin .geq (.t 10) (.c (.one (.st (.int .u8 65))))) .no, .mk (some 12) (some (9, false)) (.mov (.t 11)) .no, .mk (some 13) (some (12, true)) (.mov (.t 0)) .no, .mk (some 14) (some (12, true)) (.bin .leq (.t 13) (.c (.one (.st (.int .u8 90))))) .no, .mk (some 15) (some (9, false)) (.pick (.t 12) (.t 14) (.c (.one (.st (.bool false))))) .no, .i 16 (.pick (.t 9) (.c (.one (.st (.bool true)))) (.t 15)), .m 17 16, .mk (some 18) (some (17, false)) (.mov (.t 0)) .no, .mk (some 19) (some (17, false)) (.bin .geq (.t 18) (.c (.one (.st (.int .u8 48))))) .no, .mk (some 20) (some (17, false)) (.mov (.t 19)) .no, .mk (some 21) (some (20, true)) (.mov (.t 0)) .no, .mk (some 22) (some (20, true)) (.bin .leq (.t 21) (.c (.one (.st (.int .u8 57))))) .no, .mk (some 23) (some (17, false)) (.pick (.t 20) (.t 22) (.c (.one (.st (.bool false))))) .no, .i 24 (.pick (.t 17) (.c (.one (.st (.bool true)))) (.t 23)), .m 2 24]) .ret))
theorem JR : OkF Try.prog 50 25 [] Fd [.t 2] := .of Try.func50 rfl rfl (by kernel_rfl) rfl
def CO : IR :=
 (.seq (.ops [.i 2 (.mov (.c (.one (.st (.bool false)))))]) (.seq (.seq (.ops [.m 4 0, .i 5 (.len true (.t 4)), .i 6 (.bin .lss (.t 5) (.n 1)), .m 7 6, .mk (some 8) (some (7, false)) (.mov (.t 0)) .no, .mk (some 9) (some (7, false)) (.len true (.t 8)) .no, .mk (some 10) (some (7, false)) (.bin .gtr (.t 9) (.n 8)) .no, .i 11 (.pick (.t 7) (.c (.one (.st (.bool true)))) (.t 10)), .m 12 11, .mk (some 13) (some (12, false)) (.mov (.t 0)) .no, .mk (some 14) (some (12, false)) (.indexStr (.t 13) (.n 0)) .no, .mk (some 15) (some (12, false)) (.bin .geq (.t 14) (.c (.one (.st (.int .u8 48))))) .no, .mk (some 16) (some (12, false)) (.mov (.t 15)) .no, .mk (some 17) (some (16, true)) (.mov (.t 0)) .no, .mk (some 18) (some (16, true)) (.indexStr (.t 17) (.n 0)) .no, .mk (some 19) (some (16, true)) (.bin .leq (.t 18) (.c (.one (.st (.int .u8 57))))) .no, .mk (some 20) (some (12, false)) (.pick (.t 16) (.t 19) (.c (.one (.st (.bool false))))) .no, .i 21 (.pick (.t 12) (.c (.one (.st (.bool true)))) (.t 20))]) (.cond (.t 21) (.seq (.ops [.i 2 (.mov (.c (.one (.st (.bool false)))))]) .ret) .skip)) (.seq (.seq (.ops [.m 22 0, .i 23 (.len true (.t 22)), .i 24 (.mov (.n 0))]) (.block 0 (.loop (.seq (.ops [.i 25 (.bin .lss (.t 24) (.t 23))]) (.seq (.cond (.t 25) .skip (.exit 0)) (.seq (.block 1 (.seq (.ops [.m 26 24, .m 3 26]) (.seq (.ops [.m 27 0, .m 28 3, .i 29 (.indexStr (.t 27) (.t 28)), .i 30 (.call 86 [.t 29]), .i 31 (.un .not (.t 30))]) (.cond (.t 31) (.seq (.ops [.i 2 (.mov (.c (.one (.st (.bool false)))))]) .ret) .skip)))) (.ops [.i 32 (.bin .add (.t 24) (.n 1)), .m 24 32]))))))) (.seq (.ops [.i 2 (.mov (.c (.one (.st (.bool true)))))]) .ret))))
theorem DA : OkF Try.prog 69 33 [] CO [.t 2] := .of Try.func69 rfl rfl (by kernel_rfl) rfl
def Cq : IR :=
 (.seq (.ops [.i 2 (.mov (.c (.one (.st (.bool false)))))]) (.seq (.seq (.ops [.m 4 0, .i 5 (.bin .eql (.t 4) (.c (.one (.st (.str (ByteArray.mk (#[]))))))), .m 6 5, .mk (some 7) (some (6, false)) (.mov (.t 0)) .no, .mk (some 8) (some (6, false)) (.len true (.t 7)) .no, .mk (some 9) (some (6, false)) (.bin .gtr (.t 8) (.n 8)) .no, .i 10 (.pick (.t 6) (.c (.one (.st (.bool true)))) (.t 9)), .m 11 10, .mk (some 12) (some (11, false)) (.mov (.t 0)) .no, .mk (some 13) (some (11, false)) (.indexStr (.t 12) (.n 0)) .no, .mk (some 14) (some (11, false)) (.bin .geq (.t 13) (.c (.one (.st (.int .u8 48))))) .no, .mk (some 15) (some (11, false)) (.mov (.t 14)) .no, .mk (some 16) (some (15, true)) (.mov (.t 0)) .no, .mk (some 17) (some (15, true)) (.indexStr (.t 16) (.n 0)) .no, .mk (some 18) (some (15, true)) (.bin .leq (.t 17) (.c (.one (.st (.int .u8 57))))) .no, .mk (some 19) (some (11, false)) (.pick (.t 15) (.t 18) (.c (.one (.st (.bool false))))) .no, .i 20 (.pick (.t 11) (.c (.one (.st (.bool true)))) (.t 19))]) (.cond (.t 20) (.seq (.ops [.i 2 (.mov (.c (.one (.st (.bool false)))))]) .ret) .skip)) (.seq (.seq (.ops [.i 3 (.mov (.n 0))]) (.block 0 (.loop (.seq (.seq (.ops [.m 21 3, .m 22 0, .i 23 (.len true (.t 22)), .i 24 (.bin .lss (.t 21) (.t 23))]) (.cond (.t 24) .skip (.exit 0))) (.seq (.block 1 (.seq (.ops [.m 27 0, .m 28 3, .i 29 (.indexStr (.t 27) (.t 28)), .i 30 (.call 50 [.t 29]), .i 31 (.un .not (.t 30))]) (.cond (.t 31) (.seq (.ops [.i 2 (.mov (.c (.one (.st (.bool false)))))]) .ret) .skip))) (.ops [.m 25 3, .i 26 (.bin .add (.t 25) (.n 1)), .m 3 26])))))) (.seq (.ops [.i 2 (.mov (.c (.one (.st (.bool true)))))]) .ret))))
theorem Db : OkF Try.prog 22 32 [] Cq [.t 2] := .of Try.func22 rfl rfl (by kernel_rfl) rfl
def Cd : IR :=
 (.seq (.ops [.i 2 (.mov (.c (.one (.st (.bool false)))))]) (.seq (.ops [.m 3 0, .i 4 (.bin .neq (.t 3) (.c (.one (.st (.str (ByteArray.mk (#[]))))))), .m 5 4, .mk (some 6) (some (5, true)) (.mov (.t 0)) .no, .mk (some 7) (some (5, true)) (.indexStr (.t 6) (.n 0)) .no, .mk (some 8) (some (5, true)) (.bin .geq (.t 7) (.c (.one (.st (.int .u8 65))))) .no, .i 9 (.pick (.t 5) (.t 8) (.c (.one (.st (.bool false))))), .m 10 9, .mk (some 11) (some (10, true)) (.mov (.t 0)) .no, .mk (some 12) (some (10, true)) (.indexStr (.t 11) (.n 0)) .no, .mk (some 13) (some (10, true)) (.bin .leq (.t 12) (.c (.one (.st (.int .u8 90))))) .no, .i 14 (.pick (.t 10) (.t 13) (.c (.one (.st (.bool false))))), .m 2 14]) .ret))
theorem Dx : OkF Try.prog 70 15 [] Cd [.t 2] := .of Try.func70 rfl rfl (by kernel_rfl) rfl
def F2 : IR :=
 (.seq (.ops [.i 2 (.mov (.c (.one (.st (.bool false)))))]) (.seq (.ops [.m 3 0, .i 4 (.bin .neq (.t 3) (.c (.one (.st (.str (ByteArray.mk (#[]))))))), .m 5 4, .mk (some 6) (some (5, true)) (.mov (.t 0)) .no, .mk (some 7) (some (5, true)) (.indexStr (.t 6) (.n 0)) .no, .mk (some 8) (some (5, true)) (.bin .geq (.t 7) (.c (.one (.st (.int .u8 65))))) .no, .i 9 (.pick (.t 5) (.t 8) (.c (.one (.st (.bool false))))), .m 10 9, .mk (some 11) (some (10, true)) (.mov (.t 0)) .no, .mk (some 12) (some (10, true)) (.indexStr (.t 11) (.n 0)) .no, .mk (some 13) (some (10, true)) (.bin .leq (.t 12) (.c (.one (.st (.int .u8 90))))) .no, .i 14 (.pick (.t 10) (.t 13) (.c (.one (.st (.bool false))))), .m 2 14]) .ret))
theorem Ii : OkF Try.prog 23 15 [] F2 [.t 2] := .of Try.func23 rfl rfl (by kernel_rfl) rfl
def Nq : IR :=
 (.seq (.ops [.i 4 (.mov (.c (.one (.st (.bool false)))))]) (.seq (.seq (.ops [.i 5 (.mov (.n 0))]) (.block 0 (.loop (.seq (.seq (.ops [.m 6 5, .m 7 1, .i 8 (.len false (.t 7)), .i 9 (.bin .lss (.t 6) (.t 8))]) (.cond (.t 9) .skip (.exit 0))) (.seq (.block 1 (.seq (.ops [.m 12 1, .m 13 5, .i 14 (.indexAddr 1 (.t 12) (.t 13)), .l 15 14, .m 16 0, .i 17 (.bin .eql (.t 15) (.t 16))]) (.cond (.t 17) (.seq (.ops [.i 4 (.mov (.c (.one (.st (.bool true)))))]) .ret) .skip))) (.ops [.m 10 5, .i 11 (.bin .add (.t 10) (.n 1)), .m 5 11])))))) (.seq (.ops [.i 4 (.mov (.c (.one (.st (.bool false)))))]) .ret)))
theorem RO : OkF Try.prog 51 18 [] Nq [.t 4] := .of Try.func51 rfl rfl (by kernel_rfl) rfl

theorem Cw (s : ByteArray) (k : Nat) : KF s k = Az s k := rfl
theorem KO {s : ByteArray} (h : ¬ s.size = 0) : ¬ s = ⟨#[]⟩ := fun e => h (by rw [e]; rfl)
theorem Ib {s : ByteArray} (h : s.size = 0) : s = ⟨#[]⟩ := by
 have := ByteArray.size_eq_zero_iff.1 h
 exact this
theorem QE (n : Int) (h0 : 0 ≤ n) : Ap Try.prog 86 [.one (.st (.int .u8 n))] (As (BE n)) := by
 refine IQ.ac fun C hC => ?_
 unfold E4
 have hc : (97 ≤ n ∧ n ≤ 122) ∨ (122 < n) ∨ (n < 97 ∧ 65 ≤ n ∧ n ≤ 90) ∨ (n < 97 ∧ 90 < n) ∨ (n < 65 ∧ 48 ≤ n ∧ n ≤ 57) ∨ (n < 65 ∧ 57 < n) ∨ (n < 48) := by omega
 rcases hc with h | h | h | h | h | h | h
 ·have h1 : 97 ≤ n := h.1
  have h2 : n ≤ 122 := h.2
  repeat' with_reducible first | refine W ?_ | refine Z0 ?_ | ((first | refine Wo fun K hK => ?_ | refine Wq ?_ | refine Wr ?_); (try simp only [go_sem, fN, seval, eT, iR, h1, h2]); (repeat refine Ai ?_); (try (refine hK _ ?_; clear hK K)))
  simp only [go_sem, fN, seval, Ab, AS.result, AI, AJ, AW, BE, h1, h2]
  try simp
 ·have h1 : 97 ≤ n := by omega
  have h2 : ¬ n ≤ 122 := by omega
  have h3 : 65 ≤ n := by omega
  have h4 : ¬ n ≤ 90 := by omega
  have h5 : 48 ≤ n := by omega
  have h6 : ¬ n ≤ 57 := by omega
  repeat' with_reducible first | refine W ?_ | refine Z0 ?_ | ((first | refine Wo fun K hK => ?_ | refine Wq ?_ | refine Wr ?_); (try simp only [go_sem, fN, seval, eT, iR, h1, h2, h3, h4, h5, h6]); (repeat refine Ai ?_); (try (refine hK _ ?_; clear hK K)))
  simp only [go_sem, fN, seval, Ab, AS.result, AI, AJ, AW, BE, h1, h2, h3, h4, h5, h6]
  try simp
 ·have h1 : ¬ 97 ≤ n := by omega
  have h3 : 65 ≤ n := by omega
  have h4 : n ≤ 90 := by omega
  repeat' with_reducible first | refine W ?_ | refine Z0 ?_ | ((first | refine Wo fun K hK => ?_ | refine Wq ?_ | refine Wr ?_); (try simp only [go_sem, fN, seval, eT, iR, h1, h3, h4]); (repeat refine Ai ?_); (try (refine hK _ ?_; clear hK K)))
  simp only [go_sem, fN, seval, Ab, AS.result, AI, AJ, AW, BE, h1, h3, h4]
  try simp
 ·have h1 : ¬ 97 ≤ n := by omega
  have h3 : 65 ≤ n := by omega
  have h4 : ¬ n ≤ 90 := by omega
  have h5 : 48 ≤ n := by omega
  have h6 : ¬ n ≤ 57 := by omega
  repeat' with_reducible first | refine W ?_ | refine Z0 ?_ | ((first | refine Wo fun K hK => ?_ | refine Wq ?_ | refine Wr ?_); (try simp only [go_sem, fN, seval, eT, iR, h1, h3, h4, h5, h6]); (repeat refine Ai ?_); (try (refine hK _ ?_; clear hK K)))
  simp only [go_sem, fN, seval, Ab, AS.result, AI, AJ, AW, BE, h1, h3, h4, h5, h6]
  try simp
 ·have h1 : ¬ 97 ≤ n := by omega
  have h3 : ¬ 65 ≤ n := by omega
  have h5 : 48 ≤ n := by omega
  have h6 : n ≤ 57 := by omega
  repeat' with_reducible first | refine W ?_ | refine Z0 ?_ | ((first | refine Wo fun K hK => ?_ | refine Wq ?_ | refine Wr ?_); (try simp only [go_sem, fN, seval, eT, iR, h1, h3, h5, h6]); (repeat refine Ai ?_); (try (refine hK _ ?_; clear hK K)))
  simp only [go_sem, fN, seval, Ab, AS.result, AI, AJ, AW, BE, h1, h3, h5, h6]
  try simp
 ·have h1 : ¬ 97 ≤ n := by omega
  have h3 : ¬ 65 ≤ n := by omega
  have h5 : 48 ≤ n := by omega
  have h6 : ¬ n ≤ 57 := by omega
  repeat' with_reducible first | refine W ?_ | refine Z0 ?_ | ((first | refine Wo fun K hK => ?_ | refine Wq ?_ | refine Wr ?_); (try simp only [go_sem, fN, seval, eT, iR, h1, h3, h5, h6]); (repeat refine Ai ?_); (try (refine hK _ ?_; clear hK K)))
  simp only [go_sem, fN, seval, Ab, AS.result, AI, AJ, AW, BE, h1, h3, h5, h6]
  try simp
 ·have h1 : ¬ 97 ≤ n := by omega
  have h3 : ¬ 65 ≤ n := by omega
  have h5 : ¬ 48 ≤ n := by omega
  repeat' with_reducible first | refine W ?_ | refine Z0 ?_ | ((first | refine Wo fun K hK => ?_ | refine Wq ?_ | refine Wr ?_); (try simp only [go_sem, fN, seval, eT, iR, h1, h3, h5]); (repeat refine Ai ?_); (try (refine hK _ ?_; clear hK K)))
  simp only [go_sem, fN, seval, Ab, AS.result, AI, AJ, AW, BE, h1, h3, h5]
  try simp
theorem Na (n : Int) (h0 : 0 ≤ n) : Ap Try.prog 50 [.one (.st (.int .u8 n))] (As (BE n)) := by
 refine JR.ac fun C hC => ?_
 unfold Fd
 have hc : (97 ≤ n ∧ n ≤ 122) ∨ (122 < n) ∨ (n < 97 ∧ 65 ≤ n ∧ n ≤ 90) ∨ (n < 97 ∧ 90 < n) ∨ (n < 65 ∧ 48 ≤ n ∧ n ≤ 57) ∨ (n < 65 ∧ 57 < n) ∨ (n < 48) := by omega
 rcases hc with h | h | h | h | h | h | h
 ·have h1 : 97 ≤ n := h.1
  have h2 : n ≤ 122 := h.2
  repeat' with_reducible first | refine W ?_ | refine Z0 ?_ | ((first | refine Wo fun K hK => ?_ | refine Wq ?_ | refine Wr ?_); (try simp only [go_sem, fN, seval, eT, iR, h1, h2]); (repeat refine Ai ?_); (try (refine hK _ ?_; clear hK K)))
  simp only [go_sem, fN, seval, Ab, AS.result, AI, AJ, AW, BE, h1, h2]
  try simp
 ·have h1 : 97 ≤ n := by omega
  have h2 : ¬ n ≤ 122 := by omega
  have h3 : 65 ≤ n := by omega
  have h4 : ¬ n ≤ 90 := by omega
  have h5 : 48 ≤ n := by omega
  have h6 : ¬ n ≤ 57 := by omega
  repeat' with_reducible first | refine W ?_ | refine Z0 ?_ | ((first | refine Wo fun K hK => ?_ | refine Wq ?_ | refine Wr ?_); (try simp only [go_sem, fN, seval, eT, iR, h1, h2, h3, h4, h5, h6]); (repeat refine Ai ?_); (try (refine hK _ ?_; clear hK K)))
  simp only [go_sem, fN, seval, Ab, AS.result, AI, AJ, AW, BE, h1, h2, h3, h4, h5, h6]
  try simp
 ·have h1 : ¬ 97 ≤ n := by omega
  have h3 : 65 ≤ n := by omega
  have h4 : n ≤ 90 := by omega
  repeat' with_reducible first | refine W ?_ | refine Z0 ?_ | ((first | refine Wo fun K hK => ?_ | refine Wq ?_ | refine Wr ?_); (try simp only [go_sem, fN, seval, eT, iR, h1, h3, h4]); (repeat refine Ai ?_); (try (refine hK _ ?_; clear hK K)))
  simp only [go_sem, fN, seval, Ab, AS.result, AI, AJ, AW, BE, h1, h3, h4]
  try simp
 ·have h1 : ¬ 97 ≤ n := by omega
  have h3 : 65 ≤ n := by omega
  have h4 : ¬ n ≤ 90 := by omega
  have h5 : 48 ≤ n := by omega
  have h6 : ¬ n ≤ 57 := by omega
  repeat' with_reducible first | refine W ?_ | refine Z0 ?_ | ((first | refine Wo fun K hK => ?_ | refine Wq ?_ | refine Wr ?_); (try simp only [go_sem, fN, seval, eT, iR, h1, h3, h4, h5, h6]); (repeat refine Ai ?_); (try (refine hK _ ?_; clear hK K)))
  simp only [go_sem, fN, seval, Ab, AS.result, AI, AJ, AW, BE, h1, h3, h4, h5, h6]
  try simp
 ·have h1 : ¬ 97 ≤ n := by omega
  have h3 : ¬ 65 ≤ n := by omega
  have h5 : 48 ≤ n := by omega
  have h6 : n ≤ 57 := by omega
  repeat' with_reducible first | refine W ?_ | refine Z0 ?_ | ((first | refine Wo fun K hK => ?_ | refine Wq ?_ | refine Wr ?_); (try simp only [go_sem, fN, seval, eT, iR, h1, h3, h5, h6]); (repeat refine Ai ?_); (try (refine hK _ ?_; clear hK K)))
  simp only [go_sem, fN, seval, Ab, AS.result, AI, AJ, AW, BE, h1, h3, h5, h6]
  try simp
 ·have h1 : ¬ 97 ≤ n := by omega
  have h3 : ¬ 65 ≤ n := by omega
  have h5 : 48 ≤ n := by omega
  have h6 : ¬ n ≤ 57 := by omega
  repeat' with_reducible first | refine W ?_ | refine Z0 ?_ | ((first | refine Wo fun K hK => ?_ | refine Wq ?_ | refine Wr ?_); (try simp only [go_sem, fN, seval, eT, iR, h1, h3, h5, h6]); (repeat refine Ai ?_); (try (refine hK _ ?_; clear hK K)))
  simp only [go_sem, fN, seval, Ab, AS.result, AI, AJ, AW, BE, h1, h3, h5, h6]
  try simp
 ·have h1 : ¬ 97 ≤ n := by omega
  have h3 : ¬ 65 ≤ n := by omega
  have h5 : ¬ 48 ≤ n := by omega
  repeat' with_reducible first | refine W ?_ | refine Z0 ?_ | ((first | refine Wo fun K hK => ?_ | refine Wq ?_ | refine Wr ?_); (try simp only [go_sem, fN, seval, eT, iR, h1, h3, h5]); (repeat refine Ai ?_); (try (refine hK _ ?_; clear hK K)))
  simp only [go_sem, fN, seval, Ab, AS.result, AI, AJ, AW, BE, h1, h3, h5]
  try simp
theorem Fr (s : ByteArray) : Ap Try.prog 70 [FO s] (As (Cs s)) := by
 by_cases h0 : s.size = 0
 ·have := Ib h0
  subst this
  refine Dx.ac fun C hC => ?_
  unfold Cd
  repeat' with_reducible first | refine W ?_ | refine Z0 ?_ | ((first | refine Wo fun K hK => ?_ | refine Wq ?_ | refine Wr ?_); (try simp only [go_sem, fN, seval, eT, iR]); (repeat refine Ai ?_); (try (refine hK _ ?_; clear hK K)))
  simp only [go_sem, fN, seval, Ab, AS.result, AI, AJ, AW]
  rfl
 ·have h1 := KO h0
  have h2 : 0 < s.size := by omega
  refine Dx.ac fun C hC => ?_
  unfold Cd
  by_cases h3 : 65 ≤ Az s 0 <;> by_cases h4 : Az s 0 ≤ 90
  all_goals
   repeat' with_reducible first | refine W ?_ | refine Z0 ?_ | ((first | refine Wo fun K hK => ?_ | refine Wq ?_ | refine Wr ?_); (try simp only [go_sem, fN, seval, eT, iR, h1, h2, Cw, h3, h4]); (repeat refine Ai ?_); (try (refine hK _ ?_; clear hK K)))
   simp only [go_sem, fN, seval, Ab, AS.result, AI, AJ, AW, Cs, h3, h4, h2]
   try simp
theorem Kx (s : ByteArray) : Ap Try.prog 23 [FO s] (As (Cs s)) := by
 by_cases h0 : s.size = 0
 ·have := Ib h0
  subst this
  refine Ii.ac fun C hC => ?_
  unfold F2
  repeat' with_reducible first | refine W ?_ | refine Z0 ?_ | ((first | refine Wo fun K hK => ?_ | refine Wq ?_ | refine Wr ?_); (try simp only [go_sem, fN, seval, eT, iR]); (repeat refine Ai ?_); (try (refine hK _ ?_; clear hK K)))
  simp only [go_sem, fN, seval, Ab, AS.result, AI, AJ, AW]
  rfl
 ·have h1 := KO h0
  have h2 : 0 < s.size := by omega
  refine Ii.ac fun C hC => ?_
  unfold F2
  by_cases h3 : 65 ≤ Az s 0 <;> by_cases h4 : Az s 0 ≤ 90
  all_goals
   repeat' with_reducible first | refine W ?_ | refine Z0 ?_ | ((first | refine Wo fun K hK => ?_ | refine Wq ?_ | refine Wr ?_); (try simp only [go_sem, fN, seval, eT, iR, h1, h2, Cw, h3, h4]); (repeat refine Ai ?_); (try (refine hK _ ?_; clear hK K)))
   simp only [go_sem, fN, seval, Ab, AS.result, AI, AJ, AW, Cs, h3, h4, h2]
   try simp
theorem J7 (s : ByteArray) (h1 : 1 ≤ s.size) (h8 : s.size ≤ 8) (hd : ¬ (48 ≤ Az s 0 ∧ Az s 0 ≤ 57)) : A8 s = Bw s s.size := by
 unfold A8
 have : (decide (48 ≤ Az s 0) && decide (Az s 0 ≤ 57)) = false := by
  rw [Bool.and_eq_false_iff]
  simp
  omega
 rw [this]
 simp [h1, h8]
theorem Kv (s : ByteArray) : Ap Try.prog 69 [FO s] (As (A8 s)) := by
 by_cases h0 : s.size < 1
 ·have e : A8 s = false := by simp [A8]; omega
  rw [e]
  have h0' : (s.size : Int) < 1 := by omega
  refine DA.ac fun C hC => ?_
  unfold CO
  repeat' with_reducible first | refine W ?_ | refine Z0 ?_ | ((first | refine Wo fun K hK => ?_ | refine Wq ?_ | refine Wr ?_); (try simp only [go_sem, fN, seval, eT, iR, h0']); (repeat refine Ai ?_); (try (refine hK _ ?_; clear hK K)))
  with_reducible refine Wp ?_
  simp only [go_sem, fN, seval, true_implies, false_implies, implies_true, dT, dF, nL, h0']
  (try with_reducible refine iC ?_)
  repeat' with_reducible first | refine W ?_ | refine Z0 ?_ | ((first | refine Wo fun K hK => ?_ | refine Wq ?_ | refine Wr ?_); (try simp only [go_sem, fN, seval, eT, iR]); (repeat refine Ai ?_); (try (refine hK _ ?_; clear hK K)))
  simp only [go_sem, fN, seval, Ab, AS.result, AI, AJ, AW]
 have h0' : ¬ (s.size : Int) < 1 := by omega
 by_cases h8 : 8 < s.size
 ·have e : A8 s = false := by simp [A8]; omega
  rw [e]
  have h8' : (8 : Int) < s.size := by omega
  refine DA.ac fun C hC => ?_
  unfold CO
  repeat' with_reducible first | refine W ?_ | refine Z0 ?_ | ((first | refine Wo fun K hK => ?_ | refine Wq ?_ | refine Wr ?_); (try simp only [go_sem, fN, seval, eT, iR, h0', h8']); (repeat refine Ai ?_); (try (refine hK _ ?_; clear hK K)))
  with_reducible refine Wp ?_
  simp only [go_sem, fN, seval, true_implies, false_implies, implies_true, dT, dF, nL, h0']
  (try with_reducible refine iC ?_)
  repeat' with_reducible first | refine W ?_ | refine Z0 ?_ | ((first | refine Wo fun K hK => ?_ | refine Wq ?_ | refine Wr ?_); (try simp only [go_sem, fN, seval, eT, iR]); (repeat refine Ai ?_); (try (refine hK _ ?_; clear hK K)))
  simp only [go_sem, fN, seval, Ab, AS.result, AI, AJ, AW]
 have h8' : ¬ (8 : Int) < s.size := by omega
 have hpos : 0 < s.size := by omega
 by_cases hd : 48 ≤ Az s 0 ∧ Az s 0 ≤ 57
 ·have e : A8 s = false := by simp [A8, hd.1, hd.2]
  rw [e]
  refine DA.ac fun C hC => ?_
  unfold CO
  repeat' with_reducible first | refine W ?_ | refine Z0 ?_ | ((first | refine Wo fun K hK => ?_ | refine Wq ?_ | refine Wr ?_); (try simp only [go_sem, fN, seval, eT, iR, h0', h8', hpos, Cw, hd.1, hd.2]); (repeat refine Ai ?_); (try (refine hK _ ?_; clear hK K)))
  with_reducible refine Wp ?_
  simp only [go_sem, fN, seval, true_implies, false_implies, implies_true, dT, dF, nL, h0']
  (try with_reducible refine iC ?_)
  repeat' with_reducible first | refine W ?_ | refine Z0 ?_ | ((first | refine Wo fun K hK => ?_ | refine Wq ?_ | refine Wr ?_); (try simp only [go_sem, fN, seval, eT, iR]); (repeat refine Ai ?_); (try (refine hK _ ?_; clear hK K)))
  simp only [go_sem, fN, seval, Ab, AS.result, AI, AJ, AW]
 rw [J7 s (by omega) (by omega) hd]
 have hd2 : (48 ≤ Az s 0 ∧ ¬ Az s 0 ≤ 57) ∨ (¬ 48 ≤ Az s 0) := by omega
 refine DA.ac fun C hC => ?_
 unfold CO
 have h57 : 48 ≤ Az s 0 → ¬ Az s 0 ≤ 57 := fun h h' => hd ⟨h, h'⟩
 by_cases h48 : 48 ≤ Az s 0
 all_goals
  simp only [h48, true_implies, false_implies] at h57
  repeat' with_reducible first | refine W ?_ | refine Z0 ?_ | ((first | refine Wo fun K hK => ?_ | refine Wq ?_ | refine Wr ?_); (try simp only [go_sem, fN, seval, eT, iR, h0', h8', hpos, Cw, h48, h57]); (repeat refine Ai ?_); (try (refine hK _ ?_; clear hK K)))
  with_reducible refine Wp ?_
  simp only [go_sem, fN, seval, true_implies, false_implies, implies_true, dT, dF, nL, h0']
  (try with_reducible refine iC ?_)
  repeat' with_reducible first | refine W ?_ | refine Z0 ?_ | ((first | refine Wo fun K hK => ?_ | refine Wq ?_ | refine Wr ?_); (try simp only [go_sem, fN, seval, eT, iR]); (repeat refine Ai ?_); (try (refine hK _ ?_; clear hK K)))
  refine IWP.loop (fun m x => ∃ k, k ≤ s.size ∧ m = s.size - k ∧ Bw s k = true ∧ x.env 0 = FO s ∧ x.env 23 = AN s.size ∧ x.env 24 = AN k) s.size ⟨0, Nat.zero_le _, rfl, rfl, rfl, rfl, rfl⟩ ?_
  rintro m ⟨env, S⟩ ⟨k, hk, rfl, hl, e0, e23, e24⟩
  simp only at e0 e23 e24
  repeat' with_reducible first | refine W ?_ | refine Z0 ?_ | ((first | refine Wo fun K hK => ?_ | refine Wq ?_ | refine Wr ?_); (try simp only [go_sem, fN, seval, eT, iR, e0, e23, e24]); (repeat refine Ai ?_); (try (refine hK _ ?_; clear hK K)))
  with_reducible refine Wp ?_
  simp only [go_sem, fN, seval, true_implies, false_implies, implies_true, dT, dF, nL, e0, e23, e24]
  (try with_reducible refine iC ?_)
  refine ⟨fun hlt => ?_, fun hge => ?_⟩
  ·have hlt' : k < s.size := by omega
   repeat' (first | (with_reducible first | refine W ?_ | refine Z0 ?_ | ((first | refine Wo fun K hK => ?_ | refine Wq ?_ | refine Wr ?_); (try simp only [go_sem, fN, seval, eT, iR, e0, e23, e24, hlt', Cw]); (repeat refine Ai ?_); (try (refine hK _ ?_; clear hK K)))) | refine Cg _ (QE _ (F_ s k).1) ?_)
   with_reducible refine Wp ?_
   simp only [go_sem, fN, seval, true_implies, false_implies, implies_true, dT, dF, nL]
   (try with_reducible refine iC ?_)
   refine ⟨fun hn => ?_, fun hn => ?_⟩
   ·repeat' with_reducible first | refine W ?_ | refine Z0 ?_ | ((first | refine Wo fun K hK => ?_ | refine Wq ?_ | refine Wr ?_); (try simp only [go_sem, fN, seval, eT, iR]); (repeat refine Ai ?_); (try (refine hK _ ?_; clear hK K)))
    simp only [go_sem, fN, seval, Ab, AS.result, AI, AJ, AW]
    rw [Gc s k hlt' (by simpa using hn)]
   ·repeat' with_reducible first | refine W ?_ | refine Z0 ?_ | ((first | refine Wo fun K hK => ?_ | refine Wq ?_ | refine Wr ?_); (try simp only [go_sem, fN, seval, eT, iR, e0, e23, e24]); (repeat refine Ai ?_); (try (refine hK _ ?_; clear hK K)))
    refine AE ⟨s.size - (k + 1), by omega, k + 1, by omega, rfl, ?_, ?_⟩
    ·rw [Em s k hlt', hl]
     simpa using hn
    ·simp only [go_sem, fN, seval, eT, iR, e0, e23, e24]
     congr 3
  ·repeat' with_reducible first | refine W ?_ | refine Z0 ?_ | ((first | refine Wo fun K hK => ?_ | refine Wq ?_ | refine Wr ?_); (try simp only [go_sem, fN, seval, eT, iR]); (repeat refine Ai ?_); (try (refine hK _ ?_; clear hK K)))
   simp only [go_sem, fN, seval, Ab, AS.result, AI, AJ, AW]
   rw [show s.size = k by omega, hl]
theorem F6 (s : ByteArray) : Ap Try.prog 22 [FO s] (As (A8 s)) := by
 by_cases h0 : s.size < 1
 ·have e : A8 s = false := by simp [A8]; omega
  rw [e]
  have h0' : s = ⟨#[]⟩ := Ib (by omega)
  subst h0'
  refine Db.ac fun C hC => ?_
  unfold Cq
  repeat' with_reducible first | refine W ?_ | refine Z0 ?_ | ((first | refine Wo fun K hK => ?_ | refine Wq ?_ | refine Wr ?_); (try simp only [go_sem, fN, seval, eT, iR]); (repeat refine Ai ?_); (try (refine hK _ ?_; clear hK K)))
  with_reducible refine Wp ?_
  simp only [go_sem, fN, seval, true_implies, false_implies, implies_true, dT, dF, nL]
  (try with_reducible refine iC ?_)
  repeat' with_reducible first | refine W ?_ | refine Z0 ?_ | ((first | refine Wo fun K hK => ?_ | refine Wq ?_ | refine Wr ?_); (try simp only [go_sem, fN, seval, eT, iR]); (repeat refine Ai ?_); (try (refine hK _ ?_; clear hK K)))
  simp only [go_sem, fN, seval, Ab, AS.result, AI, AJ, AW]
 have h0' : ¬ s = ⟨#[]⟩ := KO (by omega)
 by_cases h8 : 8 < s.size
 ·have e : A8 s = false := by simp [A8]; omega
  rw [e]
  have h8' : (8 : Int) < s.size := by omega
  refine Db.ac fun C hC => ?_
  unfold Cq
  repeat' with_reducible first | refine W ?_ | refine Z0 ?_ | ((first | refine Wo fun K hK => ?_ | refine Wq ?_ | refine Wr ?_); (try simp only [go_sem, fN, seval, eT, iR, h0', h8']); (repeat refine Ai ?_); (try (refine hK _ ?_; clear hK K)))
  with_reducible refine Wp ?_
  simp only [go_sem, fN, seval, true_implies, false_implies, implies_true, dT, dF, nL, h0']
  (try with_reducible refine iC ?_)
  repeat' with_reducible first | refine W ?_ | refine Z0 ?_ | ((first | refine Wo fun K hK => ?_ | refine Wq ?_ | refine Wr ?_); (try simp only [go_sem, fN, seval, eT, iR]); (repeat refine Ai ?_); (try (refine hK _ ?_; clear hK K)))
  simp only [go_sem, fN, seval, Ab, AS.result, AI, AJ, AW]
 have h8' : ¬ (8 : Int) < s.size := by omega
 have hpos : 0 < s.size := by omega
 by_cases hd : 48 ≤ Az s 0 ∧ Az s 0 ≤ 57
 ·have e : A8 s = false := by simp [A8, hd.1, hd.2]
  rw [e]
  refine Db.ac fun C hC => ?_
  unfold Cq
  repeat' with_reducible first | refine W ?_ | refine Z0 ?_ | ((first | refine Wo fun K hK => ?_ | refine Wq ?_ | refine Wr ?_); (try simp only [go_sem, fN, seval, eT, iR, h0', h8', hpos, Cw, hd.1, hd.2]); (repeat refine Ai ?_); (try (refine hK _ ?_; clear hK K)))
  with_reducible refine Wp ?_
  simp only [go_sem, fN, seval, true_implies, false_implies, implies_true, dT, dF, nL, h0']
  (try with_reducible refine iC ?_)
  repeat' with_reducible first | refine W ?_ | refine Z0 ?_ | ((first | refine Wo fun K hK => ?_ | refine Wq ?_ | refine Wr ?_); (try simp only [go_sem, fN, seval, eT, iR]); (repeat refine Ai ?_); (try (refine hK _ ?_; clear hK K)))
  simp only [go_sem, fN, seval, Ab, AS.result, AI, AJ, AW]
 rw [J7 s (by omega) (by omega) hd]
 refine Db.ac fun C hC => ?_
 unfold Cq
 have h57 : 48 ≤ Az s 0 → ¬ Az s 0 ≤ 57 := fun h h' => hd ⟨h, h'⟩
 by_cases h48 : 48 ≤ Az s 0
 all_goals
  simp only [h48, true_implies, false_implies] at h57
  repeat' with_reducible first | refine W ?_ | refine Z0 ?_ | ((first | refine Wo fun K hK => ?_ | refine Wq ?_ | refine Wr ?_); (try simp only [go_sem, fN, seval, eT, iR, h0', h8', hpos, Cw, h48, h57]); (repeat refine Ai ?_); (try (refine hK _ ?_; clear hK K)))
  with_reducible refine Wp ?_
  simp only [go_sem, fN, seval, true_implies, false_implies, implies_true, dT, dF, nL, h0']
  (try with_reducible refine iC ?_)
  repeat' with_reducible first | refine W ?_ | refine Z0 ?_ | ((first | refine Wo fun K hK => ?_ | refine Wq ?_ | refine Wr ?_); (try simp only [go_sem, fN, seval, eT, iR]); (repeat refine Ai ?_); (try (refine hK _ ?_; clear hK K)))
  refine IWP.loop (fun m x => ∃ k, k ≤ s.size ∧ m = s.size - k ∧ Bw s k = true ∧ x.env 0 = FO s ∧ x.env 3 = AN k) s.size ⟨0, Nat.zero_le _, rfl, rfl, rfl, rfl⟩ ?_
  rintro m ⟨env, S⟩ ⟨k, hk, rfl, hl, e0, e3⟩
  simp only at e0 e3
  repeat' with_reducible first | refine W ?_ | refine Z0 ?_ | ((first | refine Wo fun K hK => ?_ | refine Wq ?_ | refine Wr ?_); (try simp only [go_sem, fN, seval, eT, iR, e0, e3]); (repeat refine Ai ?_); (try (refine hK _ ?_; clear hK K)))
  with_reducible refine Wp ?_
  simp only [go_sem, fN, seval, true_implies, false_implies, implies_true, dT, dF, nL, e0, e3]
  (try with_reducible refine iC ?_)
  refine ⟨fun hlt => ?_, fun hge => ?_⟩
  ·have hlt' : k < s.size := by omega
   repeat' (first | (with_reducible first | refine W ?_ | refine Z0 ?_ | ((first | refine Wo fun K hK => ?_ | refine Wq ?_ | refine Wr ?_); (try simp only [go_sem, fN, seval, eT, iR, e0, e3, hlt', Cw]); (repeat refine Ai ?_); (try (refine hK _ ?_; clear hK K)))) | refine Cg _ (Na _ (F_ s k).1) ?_)
   with_reducible refine Wp ?_
   simp only [go_sem, fN, seval, true_implies, false_implies, implies_true, dT, dF, nL]
   (try with_reducible refine iC ?_)
   refine ⟨fun hn => ?_, fun hn => ?_⟩
   ·repeat' with_reducible first | refine W ?_ | refine Z0 ?_ | ((first | refine Wo fun K hK => ?_ | refine Wq ?_ | refine Wr ?_); (try simp only [go_sem, fN, seval, eT, iR]); (repeat refine Ai ?_); (try (refine hK _ ?_; clear hK K)))
    simp only [go_sem, fN, seval, Ab, AS.result, AI, AJ, AW]
    rw [Gc s k hlt' (by simpa using hn)]
   ·repeat' with_reducible first | refine W ?_ | refine Z0 ?_ | ((first | refine Wo fun K hK => ?_ | refine Wq ?_ | refine Wr ?_); (try simp only [go_sem, fN, seval, eT, iR, e0, e3]); (repeat refine Ai ?_); (try (refine hK _ ?_; clear hK K)))
    refine AE ⟨s.size - (k + 1), by omega, k + 1, by omega, rfl, ?_, ?_⟩
    ·rw [Em s k hlt', hl]
     simpa using hn
    ·simp only [go_sem, fN, seval, eT, iR, e0, e3]
     congr 3
  ·repeat' with_reducible first | refine W ?_ | refine Z0 ?_ | ((first | refine Wo fun K hK => ?_ | refine Wq ?_ | refine Wr ?_); (try simp only [go_sem, fN, seval, eT, iR]); (repeat refine Ai ?_); (try (refine hK _ ?_; clear hK K)))
   simp only [go_sem, fN, seval, Ab, AS.result, AI, AJ, AW]
   rw [show s.size = k by omega, hl]
theorem SS (x : ByteArray) (l : List ByteArray) : Ap Try.prog 51 [FO x, Rs l] (As (ML x l)) := by
 refine RO.ac fun C hC => ?_
 unfold Nq
 refine IWP.learn 1 (by omega) fun hkn => ?_
 have hkn := O5 hkn
 rw [List.length_map] at hkn
 repeat' with_reducible first | refine W ?_ | refine Z0 ?_ | ((first | refine Wo fun K hK => ?_ | refine Wq ?_ | refine Wr ?_); (try simp only [go_sem, fN, seval, eT, iR]); (repeat refine Ai ?_); (try (refine hK _ ?_; clear hK K)))
 refine IWP.loop (fun n s => ∃ k, k ≤ l.length ∧ n = l.length - k ∧ ML x (l.take k) = false ∧ s.env 0 = FO x ∧ s.env 1 = Rs l ∧ s.env 5 = AN k) l.length ⟨0, Nat.zero_le _, rfl, rfl, rfl, rfl, rfl⟩ ?_
 rintro n ⟨env, S⟩ ⟨k, hk, rfl, h0, e0, e1, e5⟩
 simp only at e0 e1 e5
 repeat' with_reducible first | refine W ?_ | refine Z0 ?_ | ((first | refine Wo fun K hK => ?_ | refine Wq ?_ | refine Wr ?_); (try simp only [go_sem, fN, seval, eT, iR, e0, e1, e5]); (repeat refine Ai ?_); (try (refine hK _ ?_; clear hK K)))
 with_reducible refine Wp ?_
 simp only [go_sem, fN, seval, true_implies, false_implies, implies_true, dT, dF, nL]
 (try with_reducible refine iC ?_)
 refine ⟨fun hlt => ?_, fun hge => ?_⟩
 ·obtain ⟨a, ha⟩ := Ad (show k < l.length by omega)
  repeat' with_reducible first | refine W ?_ | refine Z0 ?_ | ((first | refine Wo fun K hK => ?_ | refine Wq ?_ | refine Wr ?_); (try simp only [go_sem, fN, seval, eT, iR, e0, e1, e5, ha]); (repeat refine Ai ?_); (try (refine hK _ ?_; clear hK K)))
  with_reducible refine Wp ?_
  simp only [go_sem, fN, seval, true_implies, false_implies, implies_true, dT, dF, nL]
  (try with_reducible refine iC ?_)
  refine ⟨fun hb => ?_, fun hb => ?_⟩
  ·repeat' with_reducible first | refine W ?_ | refine Z0 ?_ | ((first | refine Wo fun K hK => ?_ | refine Wq ?_ | refine Wr ?_); (try simp only [go_sem, fN, seval, eT, iR]); (repeat refine Ai ?_); (try (refine hK _ ?_; clear hK K)))
   simp only [go_sem, fN, seval, Ab, AS.result, AI, AJ, AW]
   rw [IN.2 (by rw [← hb]; exact AR ha)]
  ·repeat' with_reducible first | refine W ?_ | refine Z0 ?_ | ((first | refine Wo fun K hK => ?_ | refine Wq ?_ | refine Wr ?_); (try simp only [go_sem, fN, seval, eT, iR, e0, e1, e5]); (repeat refine Ai ?_); (try (refine hK _ ?_; clear hK K)))
   refine AE ⟨l.length - (k + 1), by omega, k + 1, by omega, rfl, ?_, ?_⟩
   ·rw [Af ha, N7]
    rw [N7] at h0
    simp only [List.mem_append, List.mem_singleton, not_or]
    exact ⟨h0, fun e => hb e.symm⟩
   ·simp only [go_sem, fN, seval, eT, iR, e0, e1, e5]
    congr 3
 ·repeat' with_reducible first | refine W ?_ | refine Z0 ?_ | ((first | refine Wo fun K hK => ?_ | refine Wq ?_ | refine Wr ?_); (try simp only [go_sem, fN, seval, eT, iR]); (repeat refine Ai ?_); (try (refine hK _ ?_; clear hK K)))
  simp only [go_sem, fN, seval, Ab, AS.result, AI, AJ, AW]
  rw [List.take_of_length_le (by omega)] at h0
  rw [h0]
mutual
def Tm.beq : Tm → Tm → Bool
 | .mk n xs, .mk m ys => decide (n = m) && Tm.beqL xs ys
def Tm.beqL : List Tm → List Tm → Bool
 | [], [] => true
 | x :: xs, y :: ys => x.beq y && Tm.beqL xs ys
 | _, _ => false
end
def Tm.nil : Tm := .mk ⟨#[]⟩ []

end Go.Proofs.Ytkegjgodjigjfaa
