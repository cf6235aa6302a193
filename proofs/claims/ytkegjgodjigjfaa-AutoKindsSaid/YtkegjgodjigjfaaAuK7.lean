/-
  Part 7 of the texts. Conditions: none.
-/
import Derived.Test.YtkegjgodjigjfaaAuK6
import Derived.Shelf.SlSortCmp.WholeK
import Derived.Shelf.SlSortCmp.NoneTotal
import Derived.Test.YtkegjgodjigjfaaProg
namespace Go.Proofs.Ytkegjgodjigjfaa
open Go Go.RowKit
set_option maxRecDepth 100000
def FZ : IR :=
 (.seq (.ops [.i 3 (.box 25 (.t 0)), .i 4 (.box 25 (.t 1)), .i 6 (.mov (.c (.one (.full []))))]) (.seq (.ops [.i 7 (.alloc 61 [.full []])]) (.seq (.ops [.i 18 (.makeMap (some (Go.Proofs.Ytkegjgodjigjfaa.KK.two (some .u64) (some .u64)))), .i 8 (.alloc 97 [.st (.lit (.map none))]), .s 1 8 18]) (.seq (.seq (.ops [.i 9 (.alloc 4 [.st (.bool false)]), .mk none none (.store 1 (.t 9) (.c (.one (.st (.bool true))))) .no]) (.block 0 (.loop (.seq (.seq (.ops [.l 19 9]) (.cond (.t 19) .skip (.exit 0))) (.seq (.block 1 (.seq (.ops [.mk none none (.store 1 (.t 9) (.c (.one (.st (.bool false))))) .no]) (.seq (.ops [.m 20 2, .i 21 (.len false (.t 20)), .i 22 (.mov (.n 0))]) (.block 2 (.loop (.seq (.ops [.i 23 (.bin .lss (.t 22) (.t 21))]) (.seq (.cond (.t 23) .skip (.exit 2)) (.seq (.block 3 (.seq (.ops [.i 24 (.indexAddr 2 (.t 20) (.t 22)), .L 25 2 24, .i 11 (.alloc 72 [.st (.str (ByteArray.mk (#[]))), .st (.int .i64 0)]), .s 2 11 25]) (.seq (.ops [.l 26 7, .i 27 (.len false (.t 26)), .f 28 1 11, .l 29 28, .i 30 (.call 35 [.t 27, .t 29])]) (.block 4 (.rangeF (.t 30) [31] (.ops [.m 12 31]) (.block 5 (.seq (.ops [.i 13 (.mov (.c (.one (.full [])))), .i 14 (.mov (.c (.one (.full []))))]) (.seq (.seq (.ops [.m 32 12, .i 33 (.len false (.t 32)), .i 34 (.mov (.n 0))]) (.block 6 (.loop (.seq (.ops [.i 35 (.bin .lss (.t 34) (.t 33))]) (.seq (.cond (.t 35) .skip (.exit 6)) (.seq (.block 7 (.seq (.ops [.i 36 (.indexAddr 1 (.t 32) (.t 34)), .l 37 36, .m 16 37]) (.ops [.m 38 13, .l 39 7, .m 40 16, .i 41 (.indexAddr 2 (.t 39) (.t 40)), .f 42 0 41, .l 43 42, .i 44 (.buildFlat [.t 43]), .mk (some 45) none (.append false 65 1 8 (.t 38) (.t 44)) (.keeps [1007, 1500]), .m 46 14, .mk (some 47) none (.load false 1 (.t 7)) (.onb 1007), .m 48 16, .mk (some 49) none (.indexAddr 2 (.t 47) (.t 48)) (.onb 1500), .i 50 (.fieldL 1 (.t 49)), .i 51 (.loadL false 1 (.t 50)), .i 52 (.buildFlat [.t 51]), .i 53 (.append false 65 1 8 (.t 46) (.t 52)), .m 13 45, .m 14 53]))) (.ops [.i 54 (.bin .add (.t 34) (.n 1)), .m 34 54]))))))) (.seq (.ops [.L 55 3 3, .f 56 0 11, .l 57 56, .m 58 13, .i 59 (.call 36 [.t 55, .t 57, .t 58]), .L 60 3 4, .f 61 0 11, .l 62 61, .m 63 14, .i 64 (.call 36 [.t 60, .t 62, .t 63]), .i 65 (.build [.st (.int .u64 0), .st (.int .u64 0)] [(0, 1, .t 59), (1, 1, .t 64)]), .i 17 (.alloc 67 [.st (.int .u64 0), .st (.int .u64 0)]), .s 2 17 65]) (.seq (.ops [.l 66 8, .L 67 2 17, .i 68 (.lookup (some (Go.Proofs.Ytkegjgodjigjfaa.KK.two (some .u64) (some .u64))) false (.one (.st (.bool false))) (.t 66) (.t 67)), .i 69 (.un .not (.t 68))]) (.cond (.t 69) (.seq (.ops [.l 70 8, .L 71 2 17, .mk none none (.mapSet (some (Go.Proofs.Ytkegjgodjigjfaa.KK.two (some .u64) (some .u64))) (.t 70) (.t 71) (.c (.one (.st (.bool true))))) .no]) (.seq (.ops [.l 72 7, .L 73 2 17, .i 74 (.buildSlice false 67 2 [.t 73]), .i 75 (.append false 67 2 16 (.t 72) (.t 74)), .s 1 7 75]) (.ops [.mk none none (.store 1 (.t 9) (.c (.one (.st (.bool true))))) .no]))) .skip))))))))))) (.ops [.i 76 (.bin .add (.t 22) (.n 1)), .m 22 76]))))))))) (.seq (.ops [.l 77 9]) (.ops [.i 9 (.alloc 4 [.st (.bool false)]), .s 1 9 77]))))))) (.seq (.ops [.l 78 7, .m 6 78]) .ret)))))
theorem I_ : OkF Try.prog 31 79 [10071007, 10471500, 60000050, 60000051] FZ [.t 6] := .of Try.func31 rfl rfl (by kernel_rfl) rfl
def FQ : IR :=
 (.seq (.ops [.i 2 (.mov (.n 0))]) (.seq (.seq (.ops [.m 7 0, .i 8 (.len false (.t 7)), .i 9 (.mov (.n 0))]) (.block 0 (.loop (.seq (.ops [.i 10 (.bin .lss (.t 9) (.t 8))]) (.seq (.cond (.t 10) .skip (.exit 0)) (.seq (.block 1 (.seq (.ops [.i 11 (.indexAddr 3 (.t 7) (.t 9)), .L 12 3 11, .i 4 (.alloc 25 [.st (.int .i64 0), .full [], .full []]), .s 3 4 12]) (.seq (.seq (.ops [.f 13 0 4, .l 14 13, .i 15 (.bin .gtr (.t 14) (.n 3))]) (.cond (.t 15) (.seq (.ops [.i 2 (.mov (.n 3))]) .ret) .skip)) (.seq (.ops [.f 16 1 4, .l 17 16, .i 18 (.len false (.t 17)), .i 19 (.mov (.n 0))]) (.block 2 (.loop (.seq (.ops [.i 20 (.bin .lss (.t 19) (.t 18))]) (.seq (.cond (.t 20) .skip (.exit 2)) (.seq (.block 3 (.seq (.ops [.i 21 (.indexAddr 3 (.t 17) (.t 19)), .L 22 3 21, .i 6 (.alloc 46 [.st (.str (ByteArray.mk (#[]))), .full [], .st (.int .i64 0)]), .s 3 6 22]) (.seq (.ops [.f 23 1 6, .l 24 23, .i 25 (.len false (.t 24)), .i 26 (.bin .gtr (.t 25) (.n 2))]) (.cond (.t 26) (.seq (.ops [.i 2 (.mov (.n 3))]) .ret) .skip)))) (.ops [.i 27 (.bin .add (.t 19) (.n 1)), .m 19 27])))))))))) (.ops [.i 28 (.bin .add (.t 9) (.n 1)), .m 9 28]))))))) (.seq (.ops [.i 2 (.mov (.n 0))]) .ret)))
theorem JK : OkF Try.prog 30 29 [] FQ [.t 2] := .of Try.func30 rfl rfl (by kernel_rfl) rfl
def CM : IR :=
 (.seq (.ops [.i 2 (.box 25 (.t 0)), .i 3 (.box 25 (.t 1)), .i 4 (.mov (.c (.one (.st (.bool false))))), .i 5 (.mov (.n 0))]) (.seq (.seq (.ops [.L 10 3 2, .L 11 3 3, .i 12 (.call 29 [.t 10, .t 11]), .m 6 12]) (.seq (.ops [.m 13 6, .i 14 (.bin .neq (.t 13) (.n 0))]) (.cond (.t 14) (.seq (.ops [.m 15 6, .i 4 (.mov (.c (.one (.st (.bool false))))), .m 5 15]) .ret) .skip))) (.seq (.seq (.ops [.L 16 3 2, .L 17 3 3, .i 18 (.buildSlice false 25 3 [.t 16, .t 17]), .i 19 (.call 30 [.t 18]), .m 7 19]) (.seq (.ops [.m 20 7, .i 21 (.bin .neq (.t 20) (.n 0))]) (.cond (.t 21) (.seq (.ops [.m 22 7, .i 4 (.mov (.c (.one (.st (.bool false))))), .m 5 22]) .ret) .skip))) (.seq (.seq (.ops [.L 23 3 2, .L 24 3 3, .L 25 3 2, .L 26 3 3, .i 27 (.buildSlice false 25 3 [.t 25, .t 26]), .i 28 (.call 32 [.t 27]), .i 29 (.call 31 [.t 23, .t 24, .t 28]), .i 30 (.len false (.t 29)), .i 31 (.mov (.n 0))]) (.block 0 (.loop (.seq (.ops [.i 32 (.bin .lss (.t 31) (.t 30))]) (.seq (.cond (.t 32) .skip (.exit 0)) (.seq (.block 1 (.seq (.ops [.i 33 (.indexAddr 2 (.t 29) (.t 31)), .L 34 2 33, .i 9 (.alloc 67 [.st (.int .u64 0), .st (.int .u64 0)]), .s 2 9 34]) (.seq (.ops [.f 35 0 9, .l 36 35, .L 37 3 2, .i 38 (.call 33 [.t 37]), .i 39 (.bits .and (.t 36) (.t 38)), .i 40 (.bin .neq (.t 39) (.c (.one (.st (.int .u64 0))))), .m 41 40, .mk (some 42) (some (41, true)) (.fieldAddr 1 (.t 9)) .no, .mk (some 43) (some (41, true)) (.load false 1 (.t 42)) .no, .mk (some 44) (some (41, true)) (.load true 3 (.t 3)) .no, .mk (some 45) (some (41, true)) (.call 33 [.t 44]) .no, .mk (some 46) (some (41, true)) (.bits .and (.t 43) (.t 45)) .no, .mk (some 47) (some (41, true)) (.bin .eql (.t 46) (.c (.one (.st (.int .u64 0))))) .no, .i 48 (.pick (.t 41) (.t 47) (.c (.one (.st (.bool false)))))]) (.cond (.t 48) (.seq (.ops [.i 4 (.mov (.c (.one (.st (.bool false))))), .i 5 (.mov (.n 0))]) .ret) .skip)))) (.ops [.i 49 (.bin .add (.t 31) (.n 1)), .m 31 49]))))))) (.seq (.ops [.i 4 (.mov (.c (.one (.st (.bool true))))), .i 5 (.mov (.n 0))]) .ret)))))
theorem DJ : OkF Try.prog 12 50 [] CM [.t 4, .t 5] := .of Try.func12 rfl rfl (by kernel_rfl) rfl

set_option linter.unusedVariables false
set_option maxHeartbeats 400000
section
variable {P : Program} {C : Ctx} {a : Act} {w : World} {σ : Sto} {ι : Ao} {s : AS} {Q : Exit → Act → World → Prop} {o : Oper}
end
section
variable {P : Program} {C : Ctx} {mu : List Nat} {Q : AX → AS → Prop} {s : AS}
end

def SN (P : Program) (f : FuncId) (caps : List AV) (Need : AA → Prop) {α : Type} (encs : α → List AV) (all : List α) : Prop :=
 ∀ (y : Nat) (Inv : List α → AA → Prop) (Jx : AA → Prop) (T : AA), 1000 ≤ y → (∀ pre T, Inv pre T → Need T) →
  (∀ pre v, (pre ++ [v]) <+: all → ∀ T, Inv pre T → C8 P (.one (.yld y)) (encs v) T fun r T' => (r = .one (.st (.bool true)) ∧ Inv (pre ++ [v]) T') ∨ (r = .one (.st (.bool false)) ∧ Jx T')) →
  Inv [] T → FE P f (.one (.yld y) :: caps) T fun _ T' => Inv all T' ∨ Jx T'
def HK (env : Nat → AV) : List Nat → List AV → Nat → AV
 | p :: ps, v :: vs => HK (AF env p v) ps vs
 | _, _ => env
section
variable {σ : Sto} {S : AA} {ι : Ao}
theorem KG {n : Nat} : ∀ {ps : List Nat} {vs : List Value} {xs : List AV} {tmps : Array Value} {env : Nat → AV}, AT (AO σ S ι) vs xs → n ≤ tmps.size → (∀ i, i < n → AO σ S ι (tmps.getD i undef) (env i)) →
  n ≤ ((ps.zip vs).foldl (fun t (p, v) => t.setIfInBounds p v) tmps).size ∧ ∀ i, i < n → AO σ S ι (((ps.zip vs).foldl (fun t (p, v) => t.setIfInBounds p v) tmps).getD i undef) (HK env ps xs i)
 | [], vs, xs, tmps, env, h, hs, he => ⟨hs, he⟩
 | p :: ps, [], [], tmps, env, h, hs, he => ⟨hs, he⟩
 | p :: ps, v :: vs, x :: xs, tmps, env, h, hs, he => by
  cases h with
  | cons h1 h2 =>
   refine KG (ps := ps) h2 (by simpa using hs) fun i hi => ?_
   unfold AF
   by_cases e : i = p
   ·subst e
    rw [if_pos rfl, Array.getD_eq_getD_getElem?, Array.getElem?_setIfInBounds_self_of_lt (by omega)]
    exact h1
   ·rw [if_neg e, Array.getD_eq_getD_getElem?, Array.getElem?_setIfInBounds_ne (fun h => e h.symm), ← Array.getD_eq_getD_getElem?]
    exact he i hi
end
section
variable {P : Program} {C : Ctx} {mu : List Nat} {Q : AX → AS → Prop} {s : AS} {x y : IR} {σ : Sto} {ι : Ao} {a : Act} {w : World}
theorem AM.upped (R : AM C σ ι s a w) : ∃ ι1 : Ao, (∀ i, ι1 (up1 i) = ι i) ∧ D0 σ (upS s.S) ι1 w ∧ (∀ v c, AO σ s.S ι v c → AO σ (upS s.S) ι1 v (c.ren up1)) ∧
  ∀ {Post : AV → AA → Prop} {e : Ending} {w' : World}, Kt σ (upS s.S) ι1 w Post e w' → ∃ v r S' σ' ι2, e = .returned v ∧ Post r S' ∧ Al S' ∧ Upd s.S ι (dnS S') ι2 ∧ AM C σ' ι2 ⟨s.env, dnS S'⟩ a w' := by
 have hup : ∀ i, dn1 (up1 i) = i := HQ
 have hS : ∀ i b, s.S i = some b → upS s.S (up1 i) = some (b.ren up1) := fun i b hb => Bg hb
 obtain ⟨ι1, hι1⟩ : ∃ ι1 : Ao, ∀ i, ι1 i = ι (dn1 i) := ⟨fun i => ι (dn1 i), fun _ => rfl⟩
 have hι : ∀ i b, s.S i = some b → ι1 (up1 i) = ι i := fun i b _ => by rw [hι1, hup]
 have hown : D0 σ (upS s.S) ι1 w := by
  refine ⟨fun id b hb => ?_, fun id id' b b' g h1 h2 g1 g2 => ?_⟩
  ·obtain ⟨hle, b', h1, rfl⟩ := DZ hb
   have := BL.ren (S2 := upS s.S) (ι2 := ι1) (ρ := up1) hS hι (R.blk _ _ h1)
   rw [hι1]
   exact this
  ·obtain ⟨l1, c1, k1, _⟩ := DZ h1
   obtain ⟨l2, c2, k2, _⟩ := DZ h2
   rw [hι1] at g1 g2
   have := R.inj _ _ _ _ g k1 k2 g1 g2
   rw [← H2 l1, ← H2 l2, this]
 refine ⟨ι1, fun i => by rw [hι1, hup], hown, fun v c hv => AO.ren (S2 := upS s.S) (ι2 := ι1) (ρ := up1) hS hι hv, fun {Post e w'} he => ?_⟩
 obtain ⟨v, r, S', σ', ι', rfl, hP, hclean, hupd, hown', hv, hf', hkeep, hold, hos, hsz, hsame, hbase⟩ := he
 have hSd : ∀ i b, S' i = some b → dnS S' (dn1 i) = some (b.ren dn1) := fun i b hb => GC (hclean i b hb).1 hb
 obtain ⟨ι2, hι2⟩ : ∃ ι2 : Ao, ∀ i, ι2 i = ι' (up1 i) := ⟨fun i => ι' (up1 i), fun _ => rfl⟩
 have hιd : ∀ i b, S' i = some b → ι2 (dn1 i) = ι' i := fun i b hb => by
  rw [hι2, H2 (hclean i b hb).1]
 have hu : Upd s.S ι (dnS S') ι2 := fun id b hb => by
  obtain ⟨b', h1, h2, h3⟩ := hupd _ _ (hS id b hb)
  have h4 := hSd _ _ h1
  rw [hup] at h4
  refine ⟨_, h4, by rw [BJ] at h2 ⊢; exact h2, fun hl => ?_⟩
  rw [BJ] at hl
  obtain ⟨q1, q2⟩ := h3 (by rw [BJ]; exact hl)
  refine ⟨by rw [Hg] at q1 ⊢; exact q1, ?_⟩
  rw [hι2, q2, hι1, hup]
 have hnot : ∀ g, g < C.N → ¬ C.G g → Bn (upS s.S) ι1 g := fun g h1 h2 id b hb hg => by
  obtain ⟨_, b', k1, _⟩ := DZ hb
  rw [hι1] at hg
  rcases R.base _ _ g k1 hg with h | h
  ·omega
  ·exact h2 h
 refine ⟨v, r, S', σ', ι2, rfl, hP, hclean, hu, ?_⟩
 refine ⟨R.size, fun i hi => (R.env i hi).mono hkeep hu, R.nod.mono (fun D h => (hsame D (Array.getElem?_eq_some_iff.1 h).1 (EJ hown.1 h)).trans h), hf', fun id b hb => ?_, fun id id' b b' g h1 h2 g1 g2 => ?_, fun id b g hb hg => ?_, fun p x hx => hkeep _ _ (R.ext p x hx), fun p h1 h2 => ?_, ⟨hos.1.trans R.os.1, hos.2.1.trans R.os.2.1, hos.2.2.trans R.os.2.2⟩, ⟨Nat.le_trans R.grown.1 hsz, Nat.le_trans R.grown.2 hsz⟩, fun g h1 h2 => ?_, R.upd.trans hu⟩
 ·obtain ⟨b', h1, rfl⟩ := DW hb
  have := BL.ren (S2 := dnS S') (ι2 := ι2) (ρ := dn1) hSd hιd (hown'.1 _ _ h1)
  rw [hι2]
  exact this
 ·obtain ⟨c1, k1, _⟩ := DW h1
  obtain ⟨c2, k2, _⟩ := DW h2
  rw [hι2] at g1 g2
  have := congrArg dn1 (hown'.2 _ _ _ _ g k1 k2 g1 g2)
  rw [hup, hup] at this
  exact this
 ·obtain ⟨b', h1, _⟩ := DW hb
  rw [hι2] at hg
  rcases hbase _ _ g h1 hg with h2 | h2
  ·exact .inl (by have := R.grown.1; omega)
  ·by_cases hN : g < C.N
   ·by_cases hG : C.G g
    ·exact .inr hG
    ·exact absurd (hnot g hN hG) h2
   ·exact .inl (by omega)
 ·exact (hold p (by have := R.grown.1; omega) (hnot _ h1 h2)).trans (R.old p h1 h2)
 ·exact (hsame g (by have := R.grown.1; omega) (hnot g h1 h2)).trans (R.same g h1 h2)
theorem AM.setLoop (R : AM C σ ι s a w) {id l : Nat} {env : List AV} {r : Loop} (r' : Loop) (hS : s.S id = some (.loop env r)) (hl : (ι id).g = some l) (hr : r'.tmps = r.tmps) : w.heap[l]? = some (.loop r) ∧ ∃ ι', AM C σ ι' (s.set id (.loop env r')) a (w.putObj l (.loop r')) ∧ Upd s.S ι (s.set id (.loop env r')).S ι' := by
 have hb := R.blk id _ hS
 cases hb with
 | loop h1 h2 h3 h4 h5 =>
  rw [hl] at h1
  cases h1
  exact ⟨h2, R.setBlk (o' := .loop r') hS hl h2 h5 rfl rfl fun S' ι' hu => .loop hl (CK h2).1 (by rw [hr]; exact h3) (fun j a ha => by rw [hr]; exact (h4 j a ha).mono (fun _ _ h => h) hu) h5⟩
def K8 (C : Ctx) (y : Nat) (b : AH) (N : AA → Prop) (Jx : AX → AA → Prop) (e : AX) (s : AS) : Prop := ∃ s2 U, Ae C s s2 ∧ s2.S = AF U y (some b) ∧ Al s2.S ∧ U y = none ∧ match e with
 | .normal => N U
 | .ret => Jx .ret U
 | .exit i => Jx (.exit i) U
 | .pan _ => False
theorem EM {C : Ctx} {σ0 : Sto} {T : AA} {ι0 : Ao} {w0 : World} (hC : C.N = w0.heap.size) (hw : C.w0 = w0) (hσ : C.σ0 = σ0) (hG : ∀ g, C.G g ↔ ¬ Bn T ι0 g) (hS0 : C.S0 = T) (hι0 : C.ι0 = ι0) (R : AM C σ ι s a w) (hc : Al s.S) {Post : AV → AA → Prop} {b : Bool} (hP : Post (.one (.st (.bool b))) s.S) : Kt σ0 T ι0 w0 Post (.returned (.bool b)) w := by
 have hupd := R.upd
 rw [hS0, hι0] at hupd
 subst hσ hw
 exact ⟨.bool b, _, s.S, σ, ι, rfl, hP, hc, hupd, ⟨R.blk, R.inj⟩, .one (.st .bool), R.fit, R.ext, fun p h1 h2 => R.old p (by rw [hC]; exact h1) (fun h => (hG _).1 h h2), R.os, R.grown.2, fun g h1 h2 => R.same g (by rw [hC]; exact h1) (fun h => (hG _).1 h h2), fun id b g h1 h2 => (R.base id b g h1 h2).imp (fun h => by rw [← hC]; exact h) fun h => (hG _).1 h⟩
theorem G7 {S : AA} {i : Nat} {b c : Option AH} : AF (AF S i b) i c = AF S i c := by
 funext j
 unfold AF
 split <;> rfl
inductive Pl : Code → AX → Prop
 | ret : Pl .ret .ret
 | exit (i : Nat) : Pl (.exit i) (.exit i)
theorem L6 {fn : FuncId} {ps : Array Tmp} {ca cb : Code} {D : Nat} {n : Nat} {env : List AV} {tmps : Array Value} (hx : A5 P n mu ca = some x) (hy : A5 P n mu cb = some y) (hn : env.length = n) {yb : Nat} (hyb : 1000 ≤ yb) {rec : LoopState → Option Code → Loop} (hrec : rec = fun st pe => { state := st, pending := pe, fn, tmps, params := ps, assign := ca, body := cb, defers := D }) {vs : List AV} (hps : vs.length = ps.size)
  {U : AA} (hU : U yb = none) {N : AA → Prop} {Jx : AX → AA → Prop}
  (h : Al (AF U yb (some (.loop env (rec .ready none)))) → ∀ C' : Ctx, C'.n = n → IWP P C' mu x (AX.then (fun s1 => s1.S yb = some (.loop env (rec .ready none)) ∧ IWP P C' mu y (K8 C' yb (.loop env (rec .busy none)) N Jx) (s1.set yb (.loop env (rec .busy none)))) fun _ _ => False) ⟨HK (fun i => (env[i]?).getD .any) ps.toList vs, AF U yb (some (.loop env (rec .ready none)))⟩) :
  C8 P (.one (.yld yb)) vs (AF U yb (some (.loop env (rec .ready none)))) fun r T' => (r = .one (.st (.bool true)) ∧ ∃ U', T' = AF U' yb (some (.loop env (rec .ready none))) ∧ U' yb = none ∧ N U') ∨
   (r = .one (.st (.bool false)) ∧ ∃ U' c e, T' = AF U' yb (some (.loop env (rec .done (some c)))) ∧ U' yb = none ∧ Pl c e ∧ Jx e U') := by
 intro hclean σ w vy xs ι hglob hfit hown hvy hxs
 obtain ⟨T, hT⟩ : ∃ T, AF U yb (some (.loop env (rec .ready none))) = T := ⟨_, rfl⟩
 have hTy : T yb = some (.loop env (rec .ready none)) := by rw [← hT]; exact AB _ _ _
 rw [hT] at hclean hown hvy hxs h ⊢
 have hhigh := (hclean _ _ hTy).2
 have hb := hown.1 _ _ hTy
 obtain ⟨l, hl, rfl⟩ : ∃ l, (ι yb).g = some l ∧ vy = .func (.yield l) #[] #[] := by
  cases hvy with
  | one hv =>
   cases hv with
   | yld k1 k2 k3 k4 =>
    rw [hTy] at k1
    cases k1
    exact k4 rfl
 have hlen := hxs.len
 cases hb with
 | loop k1 k2 k3 k4 k5 =>
 rw [hl] at k1
 cases k1
 have htm : (rec .ready none).tmps = tmps := by rw [hrec]
 refine ⟨l, rfl, fun ro => ⟨fn, _, ca, cb, by
  have := run_yield (P := P) (args := xs.toArray) k2 (by rw [hrec]; simp; omega)
  rw [hrec] at this
  exact this, ?_⟩⟩
 let C' : Ctx := ⟨n, w.heap.size, fun g => ¬ Bn T ι g, σ, w, T, ι, hclean, hglob, [], some l, false⟩
 have hset := KG (σ := σ) (S := T) (ι := ι) (n := n) (ps := ps.toList) (env := fun i => (env[i]?).getD .any) (tmps := tmps) hxs (by rw [htm] at k3; omega) fun i hi => by
  have hi' : i < env.length := by omega
  have := k4 i _ (List.getElem?_eq_getElem hi')
  rw [htm] at this
  simpa [hi'] using this
 have hfold : (ps.zip xs.toArray).foldl (fun t (p, v) => t.setIfInBounds p v) tmps = (ps.toList.zip xs).foldl (fun t (p, v) => t.setIfInBounds p v) tmps := by
  rw [← Array.foldl_toList, Array.toList_zip]
 have R0 : AM C' σ ι ⟨HK (fun i => (env[i]?).getD .any) ps.toList vs, T⟩ { tmps := (ps.zip xs.toArray).foldl (fun t (p, v) => t.setIfInBounds p v) tmps, defers := [] } w := by
  refine ⟨?_, fun i hi => ?_, FN, hfit, hown.1, hown.2, fun id b g h hg => .inr (fun hno => hno id b h hg), fun _ _ h => h, fun _ _ _ => rfl, ⟨rfl, rfl, rfl⟩, ⟨Nat.le_refl _, Nat.le_refl _⟩, fun _ _ _ => rfl, Upd.refl _ _⟩
  ·dsimp only
   rw [hfold]
   exact hset.1
  ·dsimp only
   rw [hfold]
   exact hset.2 i hi
 refine roundIn_of_wpIn (F := fen ro) (n := 0) trivial (wpIn_mono (h hclean C' rfl ca hx _ w ⟨σ, ι, R0⟩) fun e a1 w1 he => ?_)
 have same : ∀ {σ1 : Sto} {ι1 : Ao} {s1 : AS} {a1 : Act} {w1 : World} {b : AH}, AM C' σ1 ι1 s1 a1 w1 → s1.S yb = some b → b.len = 1 → (ι1 yb).g = some l := fun R1 hs hl1 => by
  obtain ⟨b', h1, h2, h3⟩ := R1.upd yb _ hTy
  rw [hs] at h1
  cases h1
  rw [(h3 hl1).2]
  exact hl
 cases e with
 | normal =>
  obtain ⟨s1, ⟨h1, h2⟩, σ1, ι1, R1⟩ := he
  obtain ⟨q1, ι2, R2, _⟩ := R1.setLoop (rec .busy none) h1 (same R1 h1 rfl) (by rw [hrec])
  refine ⟨_, by
   have := run_beginRound (P := P) q1 (by rw [hrec])
   rw [hrec] at this
   exact this, ?_⟩
  have e1 : (w1.putObj l (.loop (rec .busy none))) = w1.putObj l (.loop { state := .busy, pending := none, fn, tmps, params := ps, assign := ca, body := cb, defers := D }) := by rw [hrec]
  rw [← e1]
  refine wpIn_mono (h2 cb hy _ _ ⟨σ1, ι2, R2⟩) fun e3 a3 w3 he3 => ?_
  have fin : ∀ (jump : Option Code) (s3 s4 : AS) (U2 : AA), Ae C' s3 s4 → s4.S = AF U2 yb (some (.loop env (rec .busy none))) → Al s4.S → A4 C' s3 a3 w3 →
    ∃ σ5 ι5 s5, (Instr.endRound l jump).run P w3 = .ok (.bool jump.isNone) (w3.putObj l (.loop (rec (if jump.isNone then .ready else .done) jump))) ∧ s5.S = AF U2 yb (some (.loop env (rec (if jump.isNone then .ready else .done) jump))) ∧ Al s5.S ∧ AM C' σ5 ι5 s5 a3 (w3.putObj l (.loop (rec (if jump.isNone then .ready else .done) jump))) := fun jump s3 s4 U2 hg hS hc hH => by
   obtain ⟨σ4, ι4, R4⟩ := hg _ _ hH
   have h4 : s4.S yb = some (.loop env (rec .busy none)) := by rw [hS]; exact AB _ _ _
   obtain ⟨q2, ι5, R5, _⟩ := R4.setLoop (rec (if jump.isNone then .ready else .done) jump) h4 (same R4 h4 rfl) (by rw [hrec])
   refine ⟨σ4, ι5, _, ?_, ?_, ?_, R5⟩
   ·have := run_endRound (P := P) jump q2
    rw [hrec] at this ⊢
    exact this
   ·show AF s4.S yb _ = _
    rw [hS, G7]
   ·exact Ay hc hyb hhigh
  cases e3 with
  | normal =>
   obtain ⟨s3, ⟨s4, U2, g1, g2, g3, g4, g5⟩, hH⟩ := he3
   obtain ⟨σ5, ι5, s5, f1, f2, f3, R5⟩ := fin none s3 s4 U2 g1 g2 g3 hH
   exact ⟨_, _, f1, EM (C := C') rfl rfl rfl (fun g => Iff.rfl) rfl rfl R5 f3 (.inl ⟨rfl, U2, f2, g4, g5⟩)⟩
  | ret =>
   obtain ⟨s3, ⟨s4, U2, g1, g2, g3, g4, g5⟩, hH⟩ := he3
   obtain ⟨σ5, ι5, s5, f1, f2, f3, R5⟩ := fin (some .ret) s3 s4 U2 g1 g2 g3 hH
   exact ⟨_, _, f1, EM (C := C') rfl rfl rfl (fun g => Iff.rfl) rfl rfl R5 f3 (.inr ⟨rfl, U2, _, _, f2, g4, .ret, g5⟩)⟩
  | exit i =>
   obtain ⟨s3, ⟨s4, U2, g1, g2, g3, g4, g5⟩, hH⟩ := he3
   obtain ⟨σ5, ι5, s5, f1, f2, f3, R5⟩ := fin (some (.exit i)) s3 s4 U2 g1 g2 g3 hH
   exact ⟨_, _, f1, EM (C := C') rfl rfl rfl (fun g => Iff.rfl) rfl rfl R5 f3 (.inr ⟨rfl, U2, _, _, f2, g4, .exit i, g5⟩)⟩
  | panic ch => obtain ⟨s3, v, ⟨⟨s4, U2, g1, g2, g3, g4, g5⟩, _⟩, _⟩ := he3; exact g5.elim
  | _ => exact he3.elim
 | panic ch => obtain ⟨s1, v, h1, h2⟩ := he; exact h1.1.elim
 | ret => obtain ⟨s1, h1, h2⟩ := he; exact h1.elim
 | exit i => obtain ⟨s1, h1, h2⟩ := he; exact h1.elim
 | _ => exact he.elim
def BA (n : Nat) (env : Nat → AV) : List AV := (List.range n).map env
theorem FC {n : Nat} {env : Nat → AV} : (BA n env).length = n := by simp [BA]
theorem Lx {n i : Nat} {env : Nat → AV} {a : AV} (h : (BA n env)[i]? = some a) : i < n ∧ a = env i := by
 unfold BA at h
 rw [List.getElem?_map, Option.map_eq_some_iff] at h
 obtain ⟨j, h1, h2⟩ := h
 obtain ⟨h3, h4⟩ := List.getElem?_eq_some_iff.1 h1
 simp at h3 h4
 subst h4
 exact ⟨h3, h2.symm⟩
theorem FX {n : Nat} {c : Code} {g : Opd} {ps : List Nat} (h : A5 P n mu c = some (.rangeF g ps x y)) : ∃ g' ps' ca cb, c = .rangeFunc g' ps' ca cb ∧ AK n g' = some g ∧ ps'.toList = ps ∧ A5 P n mu ca = some x ∧ A5 P n mu cb = some y := by
 cases c <;> simp only [A5] at h
 case rangeFunc g' ps' ca cb =>
  split at h
  ·rename_i e1 e2 e3
   split at h
   ·cases h
    exact ⟨_, _, _, _, rfl, e1, rfl, e2, e3⟩
   ·cases h
  ·cases h
 all_goals (exfalso; revert h; (repeat' split) <;> simp)
theorem OK {U : AA} {id : Nat} {b c : Option AH} : AF (dnS (AF U (up1 id) b)) id c = AF (dnS U) id c := by
 funext j
 unfold AF
 by_cases e : j = id
 ·rw [if_pos e, if_pos e]
 ·rw [if_neg e, if_neg e]
  show (if j + 1000 = up1 id then b else U (j + 1000)).map (AH.ren dn1) = (U (j + 1000)).map (AH.ren dn1)
  rw [if_neg (show ¬ j + 1000 = up1 id by unfold up1; omega)]
theorem Ck {U : AA} {i : Nat} {b : AH} (h : Al (AF U i (some b))) (hU : U i = none) : Al U := fun j c hc => h j c (by
 rw [AD _ (fun e => by rw [e, hU] at hc; cases hc)]
 exact hc)
def Bh (n : Nat) (env : Nat → AV) : Nat → AV := fun i => if i < n then (env i).ren up1 else .any
theorem MT {n : Nat} {env : Nat → AV} : (fun i => ((AV.rens up1 (BA n env))[i]?).getD .any) = Bh n env := by
 funext i
 unfold Bh BA
 rw [AV.rens_eq, List.map_map, List.getElem?_map]
 by_cases h : i < n
 ·rw [if_pos h, List.getElem?_range h]
  rfl
 ·rw [if_neg h, List.getElem?_eq_none (by simp; omega)]
  rfl
theorem IWP.rangeF {g : Opd} {ps : List Nat} (htop : C.Top) (id : Nat) (hid : id < 1000) (hfree : s.S id = none) {f : Nat} {caps : List AC} (hg : s.ev g = .one (.fn f caps)) (hpl : B9 P f = true) {α : Type} {encs : α → List AV} {all : List α} {Need : AA → Prop} (hit : SN P f (AV.rens up1 (caps.map .one)) Need encs all)
  (hlen : ∀ v, (encs v).length = ps.length) (Inv : List α → AA → Prop) (Jx : AX → AA → Prop) (h0 : Inv [] (upS s.S)) (hneed : ∀ pre U b, Inv pre U → U (up1 id) = none → Need (AF U (up1 id) (some b)))
  (hbody : ∀ (C' : Ctx) (b0 b1 : AH) (pre : List α) (v : α) (U : AA), C'.n = C.n → (pre ++ [v]) <+: all → Inv pre U → U (up1 id) = none → Al U → b1.high = true →
   IWP P C' mu x (AX.then (fun s1 => s1.S (up1 id) = some b0 ∧ IWP P C' mu y (K8 C' (up1 id) b1 (Inv (pre ++ [v])) Jx) (s1.set (up1 id) b1)) fun _ _ => False) ⟨HK (Bh C.n s.env) ps (encs v), AF U (up1 id) (some b0)⟩)
  (hdone : ∀ U, Inv all U → Q .normal ⟨s.env, AF (dnS U) id (some (.dead 1 0))⟩) (hjump : ∀ e U, Jx e U → Q e ⟨s.env, AF (dnS U) id (some (.dead 1 0))⟩) : IWP P C mu (.rangeF g ps x y) Q s := fun c hc a w hH => by
 obtain ⟨g', ps', ca, cb, rfl, hg', rfl, hx, hy⟩ := FX hc
 obtain ⟨σ, ι, R⟩ := hH
 have rg := R.ev hg'
 rw [hg] at rg
 replace rg := AP rg
 generalize hev : a.eval g' = fv at rg
 cases rg with
 | @fn _ vc _ cc g1 g2 g3 =>
 refine wpIn_rangeFunc fun fn hfn => ?_
 obtain ⟨rec, hrec⟩ : ∃ rec : LoopState → Option Code → Loop, rec = fun st pe => { state := st, pending := pe, fn, tmps := a.tmps, params := ps', assign := ca, body := cb, defers := w.heap.size } := ⟨_, rfl⟩
 obtain ⟨w1, hw1⟩ : ∃ w1, (w.alloc (.deferred (some []))).alloc (.loop (rec .ready none)) = w1 := ⟨_, rfl⟩
 have hsz : (w.alloc (.deferred (some []))).heap.size = w.heap.size + 1 := World.size_alloc _ _
 have R1 : AM C σ ι s { a with defers := JJ w.heap.size :: a.defers } (w.alloc (.deferred (some []))) := by
  have R' := R.more (w' := w.alloc (.deferred (some []))) (Ext.refl _ _) (R.fit.alloc _) (C6.alloc _ _)
  refine { R' with nod := ?_ }
  obtain ⟨l, h1, h2, h3, _⟩ := R.nod
  refine ⟨w.heap.size :: l, by show _ :: a.defers = _; rw [h1]; rfl, List.nodup_cons.2 ⟨fun hm => ?_, h2⟩, fun D hD => ?_, fun hm => by rw [htop.2] at hm; cases hm⟩
  ·have := (Array.getElem?_eq_some_iff.1 (h3 _ hm).2).1
   omega
  ·rcases List.mem_cons.1 hD with rfl | hD
   ·exact ⟨R.grown.1, World.alloc_heap_new w _⟩
   ·exact ⟨(h3 D hD).1, (Below.heap_alloc _ _ _ (Array.getElem?_eq_some_iff.1 (h3 D hD).2).1).trans (h3 D hD).2⟩
 have hsize := R.size
 obtain ⟨hu2, R2⟩ := R1.fresh (w' := w1) hfree (.loop (BA C.n s.env) (rec .ready none)) ⟨none, 0, some (w.heap.size + 1)⟩ (Ext.refl _ _) (by rw [← hw1]; exact R1.fit.alloc _) (by rw [← hw1]; exact C6.alloc _ _) (fun g hg => by cases hg; omega) (fun S' ι' hu => .loop (g := w.heap.size + 1) rfl (by rw [← hw1, ← hsz]; exact World.alloc_heap_new _ _) (by rw [FC, hrec]; exact hsize) (fun j b hb => by
   obtain ⟨hj, rfl⟩ := Lx hb
   rw [hrec]
   exact (R.env j hj).mono (fun _ _ h => h) hu) (fun p hp => R1.fit.no (by rw [hsz]; omega)))
 have hl2 : (AF ι id (⟨none, 0, some (w.heap.size + 1)⟩ : Hnd) id).g = some (w.heap.size + 1) := by rw [AB]
 generalize AF ι id (⟨none, 0, some (w.heap.size + 1)⟩ : Hnd) = ι2 at R2 hl2 hu2
 obtain ⟨ι3, hι3, hown, hren, hend⟩ := R2.upped
 have hargs : AT (AO σ (upS (s.set id (.loop (BA C.n s.env) (rec .ready none))).S) ι3) (.func (.yield (w.heap.size + 1)) #[] #[] :: vc.toList) (.one (.yld (up1 id)) :: AV.rens up1 (caps.map .one)) := by
  have hS2 : (s.set id (.loop (BA C.n s.env) (rec .ready none))).S id = some (.loop (BA C.n s.env) (rec .ready none)) := AB _ _ _
  refine .cons (hren _ _ (.one (.yld hS2 (Nat.le_refl _) rfl fun _ => ⟨_, hl2, rfl⟩))) ?_
  rw [AV.rens_eq]
  refine (AT.mono (fun v c h => hren v c h) ?_).map_right
  refine (AT.of_get (R := fun v c => AO σ (s.set id (.loop (BA C.n s.env) (rec .ready none))).S ι2 v (.one c)) (by simpa using g1) fun j v b hv hb => ?_).map_right
  have e := g2 j b hb
  have e2 : vc.toList[j]? = some (cc j) := by simpa using e
  rw [hv] at e2
  cases e2
  exact .one ((g3 j b hb).mono (fun _ _ h => h) hu2)
 have hcl := Dt (s.set id (.loop (BA C.n s.env) (rec .ready none))).S
 have hTeq : upS (s.set id (.loop (BA C.n s.env) (rec .ready none))).S = AF (upS s.S) (up1 id) (some (.loop (AV.rens up1 (BA C.n s.env)) (rec .ready none))) := No _ _ _
 have hcall := hit (up1 id) (fun pre T => ∃ U, T = AF U (up1 id) (some (.loop (AV.rens up1 (BA C.n s.env)) (rec .ready none))) ∧ U (up1 id) = none ∧ Inv pre U)
  (fun T => ∃ U c e, T = AF U (up1 id) (some (.loop (AV.rens up1 (BA C.n s.env)) (rec .done (some c)))) ∧ U (up1 id) = none ∧ Pl c e ∧ Jx e U)
  _ (BY id) (fun pre T hT => by
   obtain ⟨U, rfl, hU, hI⟩ := hT
   exact hneed pre U _ hI hU) (fun pre v hpre T hT => by
   obtain ⟨U, rfl, hU, hI⟩ := hT
   exact L6 hx hy (by rw [AV.rens_eq, List.length_map, FC]) (BY id) hrec (by rw [hlen]; simp) hU fun hc C' hC' => by
    rw [MT]
    exact hbody C' _ (.loop (AV.rens up1 (BA C.n s.env)) (rec .busy none)) pre v U hC' hpre hI hU (Ck hc hU) (AV.rens_high _))
  ⟨_, hTeq, by rw [Bt, hfree]; rfl, h0⟩ hcl σ w1 _ ι3 (C.glob.mono R.ext) R2.fit hown hargs
 refine ⟨w.heap.size + 1, [JJ w.heap.size], w1, { target := .fn (.func f) vc, args := #[.func (.yield (w.heap.size + 1)) #[] #[]] }, w1, f, #[.func (.yield (w.heap.size + 1)) #[] #[]] ++ vc, w1, ?_, ?_, fun _ _ => trivial, ?_, fun h => by simp [fen, Fence.wide] at h, ?_⟩
 ·have hr : (fen C.ro).round = none := htop.1
  rw [hr, ← hw1, hrec]
  exact run_enterLoop_outer _ _ _ _ _
 ·simp only [resolve, hev]
  simp [go_sem]
 ·have := Ca (P := P) (w := w1) (args := #[.func (.yield (w.heap.size + 1)) #[] #[]] ++ vc) hpl
  simp [invoke, go_sem, this]
 ·have he0 : (Value.func (.yield (w.heap.size + 1)) #[] #[] :: vc.toList).toArray = #[.func (.yield (w.heap.size + 1)) #[] #[]] ++ vc := by
   apply Array.ext'
   simp
  rw [he0] at hcall
  refine En (hcall.mono fun e w2 he => ?_)
  obtain ⟨v, r, S', σ', ι4, rfl, hP, hS', hu4, R4⟩ := hend he
  have hl4 : ∀ {b : AH}, dnS S' id = some b → b.len = 1 → (ι4 id).g = some (w.heap.size + 1) := fun hb hb1 => by
   obtain ⟨b', h1, h2, h3⟩ := hu4 id _ (show (s.set id (.loop (BA C.n s.env) (rec .ready none))).S id = some _ from AB _ _ _)
   rw [hb] at h1
   cases h1
   rw [(h3 hb1).2]
   exact hl2
  have fin : ∀ (U : AA) (env : List AV) (st : LoopState) (pe : Option Code), st ≠ .busy → S' = AF U (up1 id) (some (.loop env (rec st pe))) → ∃ w3, (Instr.endLoop (w.heap.size + 1)).run P w2 = .ok pe w3 ∧ A4 C ⟨s.env, AF (dnS U) id (some (.dead 1 0))⟩ { a with defers := JJ w.heap.size :: a.defers } w3 := fun U env st pe hst hS => by
   have hb : dnS S' id = some (.loop (AV.rens dn1 env) (rec st pe)) := by
    have := GC (BY id) (show S' (up1 id) = some (.loop env (rec st pe)) by rw [hS]; exact AB _ _ _)
    rw [HQ] at this
    exact this
   have hg4 := hl4 hb rfl
   cases hbr : R4.blk id _ hb with
   | loop k1 k2 k3 k4 k5 =>
    rw [hg4] at k1
    cases k1
    obtain ⟨ι5, R5, _⟩ := R4.setBlk (b' := .dead 1 0) (o' := .loop { rec st pe with state := .exhausted }) hb hg4 k2 k5 rfl rfl fun S'' ι'' hu => .dead fun g' hg' => by
     rw [hg4] at hg'
     cases hg'
     exact ⟨_, (CK k2).1, rfl⟩
    refine ⟨w2.putObj (w.heap.size + 1) (.loop { rec st pe with state := .exhausted }), ?_, σ', ι5, ?_⟩
    ·have := run_endLoop (P := P) k2 (by rw [hrec]; exact hst)
     rw [hrec] at this ⊢
     exact this
    ·have e5 : (AS.set ⟨(s.set id (.loop (BA C.n s.env) (rec .ready none))).env, dnS S'⟩ id (.dead 1 0)) = ⟨s.env, AF (dnS U) id (some (.dead 1 0))⟩ := by
      show AS.mk s.env (AF (dnS S') id _) = _
      rw [hS, OK]
     rw [← e5]
     exact R5
  rcases hP with ⟨U, h1, h2, h3⟩ | ⟨U, c, e, h1, h2, h3, h4⟩
  ·obtain ⟨w3, f1, f2⟩ := fin U _ .ready none (by simp) h1
   exact ⟨none, w3, f1, _, hdone U h3, f2⟩
  ·obtain ⟨w3, f1, f2⟩ := fin U _ .done (some c) (by simp) h1
   refine ⟨some c, w3, f1, ?_⟩
   cases h3 with
   | ret => exact wpIn_ret ⟨_, hjump _ U h4, f2⟩
   | exit i => exact wpIn_exit ⟨_, hjump _ U h4, f2⟩
end

theorem AM.move {C : Ctx} {σ : Sto} {ι : Ao} {s : AS} {a : Act} {w : World} (R : AM C σ ι s a w) {id nid N wd : Nat} {b b' : AH} {h' : Hnd} (hid : s.S id = some b) (hn : s.S nid = none) (hN : b.len < N) (hg : ∀ g, h'.g = some g → (ι id).g = some g) (hb' : ∀ S' ι', BL σ S' ι' w h' b') :
  Upd s.S ι (AF (AF s.S id (some (.dead N wd))) nid (some b')) (AF (AF ι id ⟨none, 0, none⟩) nid h') ∧ AM C σ (AF (AF ι id ⟨none, 0, none⟩) nid h') ⟨s.env, AF (AF s.S id (some (.dead N wd))) nid (some b')⟩ a w := by
 have n1 : nid ≠ id := fun e => by subst e; rw [hid] at hn; cases hn
 obtain ⟨S2, hS2⟩ : ∃ S2, AF (AF s.S id (some (.dead N wd))) nid (some b') = S2 := ⟨_, rfl⟩
 obtain ⟨ι2, hι2⟩ : ∃ ι2 : Ao, AF (AF ι id ⟨none, 0, none⟩) nid h' = ι2 := ⟨_, rfl⟩
 rw [hS2, hι2]
 have sn : S2 nid = some b' := by rw [← hS2, AB]
 have si : S2 id = some (.dead N wd) := by rw [← hS2, AD _ n1.symm, AB]
 have so : ∀ i, i ≠ nid → i ≠ id → S2 i = s.S i := fun i h2 h3 => by rw [← hS2, AD _ h2, AD _ h3]
 have ιn : ι2 nid = h' := by rw [← hι2, AB]
 have ιi : ι2 id = ⟨none, 0, none⟩ := by rw [← hι2, AD _ n1.symm, AB]
 have ιo : ∀ i, i ≠ nid → i ≠ id → ι2 i = ι i := fun i h2 h3 => by rw [← hι2, AD _ h2, AD _ h3]
 have hu : Upd s.S ι S2 ι2 := fun i b h => by
  by_cases e2 : i = id
  ·subst e2
   rw [hid] at h
   cases h
   exact ⟨_, si, Nat.le_of_lt hN, fun hl => absurd (show N = _ from hl) (by omega)⟩
  ·have e3 : i ≠ nid := fun e3 => by subst e3; rw [hn] at h; cases h
   exact ⟨b, (so i e3 e2).trans h, Nat.le_refl _, fun _ => ⟨rfl, ιo i e3 e2⟩⟩
 have old : ∀ i b, S2 i = some b → ∀ g, (ι2 i).g = some g → ∃ i' b', s.S i' = some b' ∧ (ι i').g = some g ∧ (i = nid ∧ i' = id ∨ i' = i ∧ i ≠ nid ∧ i ≠ id) := fun i b h g hg1 => by
  by_cases e2 : i = id
  ·subst e2
   rw [ιi] at hg1
   cases hg1
  ·by_cases e3 : i = nid
   ·subst e3
    rw [ιn] at hg1
    exact ⟨id, _, hid, hg g hg1, .inl ⟨rfl, rfl⟩⟩
   ·rw [ιo i e3 e2] at hg1
    exact ⟨i, b, (so i e3 e2).symm.trans h, hg1, .inr ⟨rfl, e3, e2⟩⟩
 refine ⟨hu, R.size, fun i hi => (R.env i hi).mono (fun _ _ h => h) hu, R.nod, R.fit, fun i b h => ?_, fun i i' b b' g h1 h2 g1 g2 => ?_, fun i b g h hg1 => ?_, R.ext, R.old, R.os, R.grown, R.same, R.upd.trans hu⟩
 ·change S2 i = some b at h
  by_cases e2 : i = id
  ·subst e2
   rw [si] at h
   cases h
   rw [ιi]
   exact .dead fun g hg => by cases hg
  ·by_cases e3 : i = nid
   ·subst e3
    rw [sn] at h
    cases h
    rw [ιn]
    exact hb' _ _
   ·rw [ιo i e3 e2]
    exact (R.blk i b ((so i e3 e2).symm.trans h)).mono (fun _ _ h => h) hu (fun _ _ => rfl) (fun _ _ _ _ => rfl)
 ·obtain ⟨j1, c1, k1, k2, k3⟩ := old i b h1 g g1
  obtain ⟨j2, c2, l1, l2, l3⟩ := old i' b' h2 g g2
  have := R.inj _ _ _ _ g k1 l1 k2 l2
  rcases k3 with ⟨a1, a2⟩ | ⟨a1, a2, a3⟩ <;> rcases l3 with ⟨b1, b2⟩ | ⟨b1, b2, b3⟩
  ·rw [a1, b1]
  ·exact absurd (by rw [← b1, ← this, a2] : i' = id) b3
  ·exact absurd (by rw [← a1, this, b2] : i = id) a3
  ·rw [← a1, ← b1, this]
 ·obtain ⟨j1, c1, k1, k2, _⟩ := old i b h g hg1
  exact R.base _ _ g k1 k2
theorem Jt {σ : Sto} {S : AA} {ι : Ao} {v : Value} {id n : Nat} (h : Ac σ S ι v (.row id n)) : ∃ b, S id = some b ∧ n ≤ b.len ∧ v.oneCell' = true ∧ (n = b.len → v = .slice (ι id).p n (ι id).cap) := by
 cases h with
 | row h1 h2 h3 h4 => exact ⟨_, h1, h2, h3, h4⟩

def Qx (P : Program) (f : FuncId) (caps : List AV) (Need : AA → Prop) {α : Type} (e : TypeId) (wd : Nat) (enc : α → List (List SV)) (all : List α) : Prop :=
 ∀ (y rid : Nat) (Inv : List α → AA → Prop) (Jx : AA → Prop) (T : AA), 1000 ≤ y → 1000 ≤ rid → (∀ pre T, Inv pre T → Need T) → (∀ pre T, Inv pre T → T rid = none) →
  (∀ pre v, (pre ++ [v]) <+: all → ∀ T, Inv pre T → C8 P (.one (.yld y)) [.one (.row rid (enc v).length)] (AF T rid (some (.mrow e wd (enc v)))) fun r T' => ∃ V, T' = AF V rid (some (.mrow e wd (enc v))) ∧ V rid = none ∧ ((r = .one (.st (.bool true)) ∧ Inv (pre ++ [v]) V) ∨ (r = .one (.st (.bool false)) ∧ Jx V))) →
  Inv [] T → FE P f (.one (.yld y) :: caps) T fun _ T' => ∃ V b, T' = AF V rid (some b) ∧ (Inv all V ∨ Jx V)
theorem C8.mono {P : Program} {y : AV} {xs : List AV} {S : AA} {Post Post' : AV → AA → Prop} (h : C8 P y xs S Post) (hp : ∀ r T, Post r T → Post' r T) : C8 P y xs S Post' := by
 have he : ∀ {σ : Sto} {ι : Ao} {w : World} {e : Ending} {w' : World}, Kt σ S ι w Post e w' → Kt σ S ι w Post' e w' := fun h => by
  obtain ⟨v, r, S', σ', ι', h1, h2, h3⟩ := h
  exact ⟨v, r, S', σ', ι', h1, hp r S' h2, h3⟩
 intro hS σ w vy vs ι h1 h2 h3 h4 h5
 obtain ⟨l, hl, hy⟩ := h hS σ w vy vs ι h1 h2 h3 h4 h5
 refine ⟨l, hl, fun ro => ?_⟩
 obtain ⟨fn, tm, ca, cb, h6, h7⟩ := hy ro
 exact ⟨fn, tm, ca, cb, h6, h7.mono fun _ _ h => he h⟩
theorem Ae.renameM {C : Ctx} {s : AS} (t id nid N : Nat) {e : TypeId} {wd : Nat} {xs : List (List SV)} (hid : s.S id = some (.mrow e wd xs)) (ht : s.env t = .one (.row id xs.length)) (hn : s.S nid = none) (hN : xs.length < N) (htn : t < C.n) :
  Ae C s ⟨AF s.env t (.one (.row nid xs.length)), AF (AF s.S id (some (.dead N wd))) nid (some (.mrow e wd xs))⟩ := fun a w ⟨σ, ι, R⟩ => by
 have hv := R.env t htn
 rw [ht] at hv
 obtain ⟨b0, q1, q2, q3, q4⟩ := Jt (AP hv)
 ·rw [hid] at q1
  cases q1
  have hb := R.blk _ _ hid
  have hbb : ∀ S' ι', BL σ S' ι' w (ι id) (.mrow e wd xs) := fun S' ι' => by
   cases hb with
   | mnil h1 h2 => exact .mnil h1 h2
   | mrow h1 h2 h3 h4 h5 h6 h7 h8 h9 => exact .mrow h1 h2 h3 h4 h5 h6 h7 h8 h9
  obtain ⟨hu, R'⟩ := R.move (N := N) (wd := wd) hid hn hN (fun g hg => hg) hbb
  refine ⟨σ, _, { R' with env := fun i hi => ?_ }⟩
  show AO σ _ _ _ (AF s.env t _ i)
  by_cases hi' : i = t
  ·subst hi'
   rw [AB]
   refine .one (.row (b := .mrow e wd xs) (AB _ _ _) (Nat.le_refl _) q3 fun _ => ?_)
   rw [AB]
   exact q4 rfl
  ·rw [AD _ hi']
   exact R'.env i hi
section
variable {P : Program} {C : Ctx} {mu : List Nat} {Q : AX → AS → Prop} {s : AS} {x y : IR}
theorem QB {U : AA} {r : Nat} {b : AH} : dnS (AF U (up1 r) (some b)) = AF (dnS U) r (some (b.ren dn1)) := by
 funext j
 unfold AF
 by_cases e : j = r
 ·rw [if_pos e]
  show (if j + 1000 = up1 r then some b else U (j + 1000)).map (AH.ren dn1) = _
  rw [if_pos (show j + 1000 = up1 r by unfold up1; omega)]
  rfl
 ·rw [if_neg e]
  show (if j + 1000 = up1 r then some b else U (j + 1000)).map (AH.ren dn1) = (U (j + 1000)).map (AH.ren dn1)
  rw [if_neg (show ¬ j + 1000 = up1 r by unfold up1; omega)]
theorem IWP.rangeW {g : Opd} {ps : List Nat} (htop : C.Top) (id : Nat) (hid : id < 1000) (hfree : s.S id = none) {f : Nat} {caps : List AC} (hg : s.ev g = .one (.fn f caps)) (hpl : B9 P f = true) (r0 : Nat) (hne0 : r0 ≠ id) {α : Type} {e : TypeId} {wd : Nat} {enc : α → List (List SV)} {all : List α} {Need : AA → Prop} (hit : Qx P f (AV.rens up1 (caps.map .one)) Need e wd enc all)
  (hlen : ps.length = 1) (Inv : List α → AA → Prop) (Jx : AX → AA → Prop) (h0 : Inv [] (upS s.S)) (hfr : ∀ pre U, Inv pre U → U (up1 r0) = none) (hneed : ∀ pre U b, Inv pre U → U (up1 id) = none → Need (AF U (up1 id) (some b)))
  (hbody : ∀ (C' : Ctx) (b0 b1 : AH) (pre : List α) (v : α) (U : AA), C'.n = C.n → (pre ++ [v]) <+: all → Inv pre U → U (up1 id) = none → Al U → b1.high = true →
   IWP P C' mu x (AX.then (fun s1 => s1.S (up1 id) = some b0 ∧ IWP P C' mu y (K8 C' (up1 id) b1 (fun V => ∃ V', V = AF V' (up1 r0) (some (.mrow e wd (enc v))) ∧ V' (up1 r0) = none ∧ Inv (pre ++ [v]) V') fun x V => ∃ V', V = AF V' (up1 r0) (some (.mrow e wd (enc v))) ∧ V' (up1 r0) = none ∧ Jx x V') (s1.set (up1 id) b1)) fun _ _ => False) ⟨HK (Bh C.n s.env) ps [.one (.row (up1 r0) (enc v).length)], AF (AF U (up1 r0) (some (.mrow e wd (enc v)))) (up1 id) (some b0)⟩)
  (hdone : ∀ U b, Inv all U → Q .normal ⟨s.env, AF (AF (dnS U) r0 (some b)) id (some (.dead 1 0))⟩) (hjump : ∀ e U b, Jx e U → Q e ⟨s.env, AF (AF (dnS U) r0 (some b)) id (some (.dead 1 0))⟩) : IWP P C mu (.rangeF g ps x y) Q s := fun c hc a w hH => by
 have hne : up1 r0 ≠ up1 id := fun h => hne0 (by unfold up1 at h; omega)
 obtain ⟨g', ps', ca, cb, rfl, hg', rfl, hx, hy⟩ := FX hc
 obtain ⟨σ, ι, R⟩ := hH
 have rg := R.ev hg'
 rw [hg] at rg
 replace rg := AP rg
 generalize hev : a.eval g' = fv at rg
 cases rg with
 | @fn _ vc _ cc g1 g2 g3 =>
 refine wpIn_rangeFunc fun fn hfn => ?_
 obtain ⟨rec, hrec⟩ : ∃ rec : LoopState → Option Code → Loop, rec = fun st pe => { state := st, pending := pe, fn, tmps := a.tmps, params := ps', assign := ca, body := cb, defers := w.heap.size } := ⟨_, rfl⟩
 obtain ⟨w1, hw1⟩ : ∃ w1, (w.alloc (.deferred (some []))).alloc (.loop (rec .ready none)) = w1 := ⟨_, rfl⟩
 have hsz : (w.alloc (.deferred (some []))).heap.size = w.heap.size + 1 := World.size_alloc _ _
 have R1 : AM C σ ι s { a with defers := JJ w.heap.size :: a.defers } (w.alloc (.deferred (some []))) := by
  have R' := R.more (w' := w.alloc (.deferred (some []))) (Ext.refl _ _) (R.fit.alloc _) (C6.alloc _ _)
  refine { R' with nod := ?_ }
  obtain ⟨l, h1, h2, h3, _⟩ := R.nod
  refine ⟨w.heap.size :: l, by show _ :: a.defers = _; rw [h1]; rfl, List.nodup_cons.2 ⟨fun hm => ?_, h2⟩, fun D hD => ?_, fun hm => by rw [htop.2] at hm; cases hm⟩
  ·have := (Array.getElem?_eq_some_iff.1 (h3 _ hm).2).1
   omega
  ·rcases List.mem_cons.1 hD with rfl | hD
   ·exact ⟨R.grown.1, World.alloc_heap_new w _⟩
   ·exact ⟨(h3 D hD).1, (Below.heap_alloc _ _ _ (Array.getElem?_eq_some_iff.1 (h3 D hD).2).1).trans (h3 D hD).2⟩
 have hsize := R.size
 obtain ⟨hu2, R2⟩ := R1.fresh (w' := w1) hfree (.loop (BA C.n s.env) (rec .ready none)) ⟨none, 0, some (w.heap.size + 1)⟩ (Ext.refl _ _) (by rw [← hw1]; exact R1.fit.alloc _) (by rw [← hw1]; exact C6.alloc _ _) (fun g hg => by cases hg; omega) (fun S' ι' hu => .loop (g := w.heap.size + 1) rfl (by rw [← hw1, ← hsz]; exact World.alloc_heap_new _ _) (by rw [FC, hrec]; exact hsize) (fun j b hb => by
   obtain ⟨hj, rfl⟩ := Lx hb
   rw [hrec]
   exact (R.env j hj).mono (fun _ _ h => h) hu) (fun p hp => R1.fit.no (by rw [hsz]; omega)))
 have hl2 : (AF ι id (⟨none, 0, some (w.heap.size + 1)⟩ : Hnd) id).g = some (w.heap.size + 1) := by rw [AB]
 generalize AF ι id (⟨none, 0, some (w.heap.size + 1)⟩ : Hnd) = ι2 at R2 hl2 hu2
 obtain ⟨ι3, hι3, hown, hren, hend⟩ := R2.upped
 have hargs : AT (AO σ (upS (s.set id (.loop (BA C.n s.env) (rec .ready none))).S) ι3) (.func (.yield (w.heap.size + 1)) #[] #[] :: vc.toList) (.one (.yld (up1 id)) :: AV.rens up1 (caps.map .one)) := by
  have hS2 : (s.set id (.loop (BA C.n s.env) (rec .ready none))).S id = some (.loop (BA C.n s.env) (rec .ready none)) := AB _ _ _
  refine .cons (hren _ _ (.one (.yld hS2 (Nat.le_refl _) rfl fun _ => ⟨_, hl2, rfl⟩))) ?_
  rw [AV.rens_eq]
  refine (AT.mono (fun v c h => hren v c h) ?_).map_right
  refine (AT.of_get (R := fun v c => AO σ (s.set id (.loop (BA C.n s.env) (rec .ready none))).S ι2 v (.one c)) (by simpa using g1) fun j v b hv hb => ?_).map_right
  have e := g2 j b hb
  have e2 : vc.toList[j]? = some (cc j) := by simpa using e
  rw [hv] at e2
  cases e2
  exact .one ((g3 j b hb).mono (fun _ _ h => h) hu2)
 have hcl := Dt (s.set id (.loop (BA C.n s.env) (rec .ready none))).S
 have hTeq : upS (s.set id (.loop (BA C.n s.env) (rec .ready none))).S = AF (upS s.S) (up1 id) (some (.loop (AV.rens up1 (BA C.n s.env)) (rec .ready none))) := No _ _ _
 have hcall := hit (up1 id) (up1 r0) (fun pre T => ∃ U, T = AF U (up1 id) (some (.loop (AV.rens up1 (BA C.n s.env)) (rec .ready none))) ∧ U (up1 id) = none ∧ Inv pre U)
  (fun T => ∃ U c e, T = AF U (up1 id) (some (.loop (AV.rens up1 (BA C.n s.env)) (rec .done (some c)))) ∧ U (up1 id) = none ∧ Pl c e ∧ Jx e U)
  _ (BY id) (BY r0) (fun pre T hT => by
   obtain ⟨U, rfl, hU, hI⟩ := hT
   exact hneed pre U _ hI hU) (fun pre T hT => by
   obtain ⟨U, rfl, hU, hI⟩ := hT
   rw [AD _ hne]
   exact hfr pre U hI) (fun pre v hpre T hT => by
   obtain ⟨U, rfl, hU, hI⟩ := hT
   have hUr := hfr pre U hI
   have hy0 : (AF U (up1 r0) (some (.mrow e wd (enc v)))) (up1 id) = none := by rw [AD _ hne.symm]; exact hU
   rw [Av (Ne.symm hne)]
   refine C8.mono (L6 hx hy (by rw [AV.rens_eq, List.length_map, FC]) (BY id) hrec (by simpa using hlen.symm) hy0 fun hc C' hC' => by
    rw [MT]
    exact hbody C' _ (.loop (AV.rens up1 (BA C.n s.env)) (rec .busy none)) pre v U hC' hpre hI hU (Ck (Ck hc hy0) hUr) (AV.rens_high _)) fun r T' hT' => ?_
   rcases hT' with ⟨rfl, U', rfl, h1, V', rfl, h3, h4⟩ | ⟨rfl, U', c, ex, rfl, h1, hj, V', rfl, h3, h4⟩
   ·rw [AD _ hne.symm] at h1
    refine ⟨AF V' (up1 id) (some (.loop (AV.rens up1 (BA C.n s.env)) (rec .ready none))), Av hne, by rw [AD _ hne]; exact h3, .inl ⟨rfl, V', rfl, h1, h4⟩⟩
   ·rw [AD _ hne.symm] at h1
    refine ⟨AF V' (up1 id) (some (.loop (AV.rens up1 (BA C.n s.env)) (rec .done (some c)))), Av hne, by rw [AD _ hne]; exact h3, .inr ⟨rfl, V', c, ex, rfl, h1, hj, h4⟩⟩)
  ⟨_, hTeq, by rw [Bt, hfree]; rfl, h0⟩ hcl σ w1 _ ι3 (C.glob.mono R.ext) R2.fit hown hargs
 refine ⟨w.heap.size + 1, [JJ w.heap.size], w1, { target := .fn (.func f) vc, args := #[.func (.yield (w.heap.size + 1)) #[] #[]] }, w1, f, #[.func (.yield (w.heap.size + 1)) #[] #[]] ++ vc, w1, ?_, ?_, fun _ _ => trivial, ?_, fun h => by simp [fen, Fence.wide] at h, ?_⟩
 ·have hr : (fen C.ro).round = none := htop.1
  rw [hr, ← hw1, hrec]
  exact run_enterLoop_outer _ _ _ _ _
 ·simp only [resolve, hev]
  simp [go_sem]
 ·have := Ca (P := P) (w := w1) (args := #[.func (.yield (w.heap.size + 1)) #[] #[]] ++ vc) hpl
  simp [invoke, go_sem, this]
 ·have he0 : (Value.func (.yield (w.heap.size + 1)) #[] #[] :: vc.toList).toArray = #[.func (.yield (w.heap.size + 1)) #[] #[]] ++ vc := by
   apply Array.ext'
   simp
  rw [he0] at hcall
  refine En (hcall.mono fun e w2 he => ?_)
  obtain ⟨v, r, S', σ', ι4, rfl, hP, hS', hu4, R4⟩ := hend he
  have hl4 : ∀ {b : AH}, dnS S' id = some b → b.len = 1 → (ι4 id).g = some (w.heap.size + 1) := fun hb hb1 => by
   obtain ⟨b', h1, h2, h3⟩ := hu4 id _ (show (s.set id (.loop (BA C.n s.env) (rec .ready none))).S id = some _ from AB _ _ _)
   rw [hb] at h1
   cases h1
   rw [(h3 hb1).2]
   exact hl2
  have fin : ∀ (U : AA) (env : List AV) (st : LoopState) (pe : Option Code), st ≠ .busy → S' = AF U (up1 id) (some (.loop env (rec st pe))) → ∃ w3, (Instr.endLoop (w.heap.size + 1)).run P w2 = .ok pe w3 ∧ A4 C ⟨s.env, AF (dnS U) id (some (.dead 1 0))⟩ { a with defers := JJ w.heap.size :: a.defers } w3 := fun U env st pe hst hS => by
   have hb : dnS S' id = some (.loop (AV.rens dn1 env) (rec st pe)) := by
    have := GC (BY id) (show S' (up1 id) = some (.loop env (rec st pe)) by rw [hS]; exact AB _ _ _)
    rw [HQ] at this
    exact this
   have hg4 := hl4 hb rfl
   cases hbr : R4.blk id _ hb with
   | loop k1 k2 k3 k4 k5 =>
    rw [hg4] at k1
    cases k1
    obtain ⟨ι5, R5, _⟩ := R4.setBlk (b' := .dead 1 0) (o' := .loop { rec st pe with state := .exhausted }) hb hg4 k2 k5 rfl rfl fun S'' ι'' hu => .dead fun g' hg' => by
     rw [hg4] at hg'
     cases hg'
     exact ⟨_, (CK k2).1, rfl⟩
    refine ⟨w2.putObj (w.heap.size + 1) (.loop { rec st pe with state := .exhausted }), ?_, σ', ι5, ?_⟩
    ·have := run_endLoop (P := P) k2 (by rw [hrec]; exact hst)
     rw [hrec] at this ⊢
     exact this
    ·have e5 : (AS.set ⟨(s.set id (.loop (BA C.n s.env) (rec .ready none))).env, dnS S'⟩ id (.dead 1 0)) = ⟨s.env, AF (dnS U) id (some (.dead 1 0))⟩ := by
      show AS.mk s.env (AF (dnS S') id _) = _
      rw [hS, OK]
     rw [← e5]
     exact R5
  obtain ⟨V, bb, h0, hP⟩ := hP
  rcases hP with ⟨U, rfl, h2, h3⟩ | ⟨U, c, ex, rfl, h2, h3, h4⟩
  ·obtain ⟨w3, f1, f2⟩ := fin (AF U (up1 r0) (some bb)) _ .ready none (by simp) (h0.trans (Av hne.symm))
   rw [QB] at f2
   exact ⟨none, w3, f1, _, hdone U _ h3, f2⟩
  ·obtain ⟨w3, f1, f2⟩ := fin (AF U (up1 r0) (some bb)) _ .done (some c) (by simp) (h0.trans (Av hne.symm))
   rw [QB] at f2
   refine ⟨some c, w3, f1, ?_⟩
   cases h3 with
   | ret => exact wpIn_ret ⟨_, hjump _ U _ h4, f2⟩
   | exit i => exact wpIn_exit ⟨_, hjump _ U _ h4, f2⟩
end

def Ek : IR :=
 (.seq (.ops [.i 2 (.box 3 (.t 0)), .i 3 (.box 3 (.t 1)), .i 4 (.mov (.c (.one (.st (.lit .nilFunc)))))]) (.seq (.ops [.i 5 (.makeFunc 57 [.t 3, .t 2]), .m 4 5]) .ret))
theorem Hs : OkF Try.prog 35 6 [] Ek [.t 4] := .of Try.func35 rfl rfl (by kernel_rfl) rfl
def D5 : IR :=
 (.seq (.ops [.l 6 1, .i 7 (.makeSlice 3 1 8 [.int .i64 0] (.t 6) (.t 6)), .m 4 7]) (.block 0 (.loop (.seq (.seq (.ops [.l 8 2, .i 9 (.bin .gtr (.t 8) (.n 0)), .m 10 9, .mk (some 11) (some (10, false)) (.load false 1 (.t 1)) .no, .mk (some 12) (some (10, false)) (.bin .eql (.t 11) (.n 0)) .no, .i 13 (.pick (.t 10) (.c (.one (.st (.bool true)))) (.t 12))]) (.cond (.t 13) .skip (.exit 0))) (.block 1 (.seq (.seq (.ops [.m 14 0, .m 15 4, .i 16 (.callY (.t 14) [.t 15]), .i 17 (.un .not (.t 16))]) (.cond (.t 17) .ret .skip)) (.seq (.ops [.l 18 1, .i 19 (.bin .sub (.t 18) (.n 1)), .m 5 19]) (.seq (.block 2 (.loop (.seq (.seq (.ops [.m 20 5, .i 21 (.bin .geq (.t 20) (.n 0))]) (.cond (.t 21) .skip (.exit 2))) (.seq (.block 3 (.seq (.seq (.ops [.m 24 4, .m 25 5, .i 26 (.indexAddr 1 (.t 24) (.t 25)), .l 27 26, .i 28 (.bin .add (.t 27) (.n 1)), .i 29 (.indexAddr 1 (.t 24) (.t 25)), .s 1 29 28]) (.seq (.ops [.m 30 4, .m 31 5, .i 32 (.indexAddr 1 (.t 30) (.t 31)), .l 33 32, .l 34 2, .i 35 (.bin .lss (.t 33) (.t 34))]) (.cond (.t 35) (.exit 2) .skip))) (.ops [.m 36 4, .m 37 5, .i 38 (.indexAddr 1 (.t 36) (.t 37)), .mk none none (.store 1 (.t 38) (.n 0)) .no]))) (.ops [.m 22 5, .i 23 (.bin .sub (.t 22) (.n 1)), .m 5 23]))))) (.seq (.ops [.m 39 5, .i 40 (.bin .lss (.t 39) (.n 0))]) (.cond (.t 40) .ret .skip))))))))))
theorem HI : OkF Try.prog 57 41 [70000016] D5 [] := .of Try.func57 rfl rfl (by kernel_rfl) rfl

theorem Ae.freeze {C : Ctx} {s : AS} (id : Nat) (ts : List Nat) {ty : TypeId} {xs : List SV} (hS : s.S id = some (.box ty (xs.map .st))) (hl : 0 < xs.length) (ht : ∀ t ∈ ts, s.env t = .one (.ptr id 1 0 0)) :
  Ae C s ⟨fun t => if t ∈ ts then .one (.eptr xs) else s.env t, AF s.S id (some (.dead 1 0))⟩ := fun a w ⟨σ, ι, R⟩ => by
 have hb := R.blk _ _ hS
 cases hb with
 | @box _ _ g vs h1 h2 h3 h4 h5 =>
  have hkeep := E9 (σ := σ) (w' := w) (g := g) (k := xs.length) (fun p x e hx => by rw [h5 _ e] at hx; cases hx)
  obtain ⟨hu, R'⟩ := R.turn (w' := w) hS (.dead 1 0) (ι id) (σ' := DU σ w g xs.length) hkeep (fun p hp _ => Et (fun e => hp (by rw [e]; exact h1))) (Dr R.fit) (Nat.le_refl _) (fun _ => ⟨rfl, rfl⟩) ⟨rfl, rfl, rfl⟩ (Nat.le_refl _) (fun _ _ _ => rfl) (fun g h => .inl h)
   (fun hu => .dead fun g' hg' => by rw [h1] at hg'; cases hg'; exact ⟨_, h3, rfl⟩)
  refine ⟨_, _, R'.size, fun i hi => ?_, R'.nod, R'.fit, R'.blk, R'.inj, R'.base, R'.ext, R'.old, R'.os, R'.grown, R'.same, R'.upd⟩
  show AO _ _ _ _ (if i ∈ ts then .one (.eptr xs) else s.env i)
  split
  ·rename_i hm
   have re := R.env i hi
   rw [ht i hm] at re
   obtain ⟨b, q1, q2, q3⟩ := D9 (AP re)
   rw [hS] at q1
   cases q1
   obtain ⟨g', e1, e2⟩ := q3 rfl
   rw [h1] at e1
   cases e1
   rw [e2]
   have cell : ∀ j x, xs[j]? = some x → ∃ v, vs[j]? = some v ∧ Am σ v x := fun j x hx => by
    obtain ⟨v, v1, v2⟩ := h4.get (j := j) (b := .st x) (by rw [List.getElem?_map, hx]; rfl)
    exact ⟨v, by simpa using v1, Bb v2⟩
   refine .one (.eptr (fun j => (vs[j]?).getD undef) (fun j x hx => ?_) (fun j x hx => ?_) (fun _ _ => ?_))
   ·obtain ⟨v, v1, v2⟩ := cell j x hx
    have hj := (List.getElem?_eq_some_iff.1 hx).1
    rw [show (0 * (AH.box ty (xs.map AC.st)).wid + 0 + j) = j by omega, KN hj, cell_of_row w g _ _ _ _ h3, v1]
    rfl
   ·obtain ⟨v, v1, v2⟩ := cell j x hx
    rw [v1]
    exact v2.mono hkeep
   ·rw [Gv hl, FK h3]
  ·exact R'.env i hi

set_option linter.unusedSimpArgs false
def AZ (l : List Nat) : List (List SV) := l.map fun (x : Nat) => Cz (x : Int)
theorem BM (l : List Nat) : (AZ l).length = l.length := by simp [AZ]
theorem Bk {l : List Nat} {i x : Nat} (h : l[i]? = some x) : (AZ l)[i]? = some (Cz (x : Int)) := by simp [AZ, h]
theorem DG (l : List Nat) (i x : Nat) : (AZ l).set i [.int .i64 (x : Int)] = AZ (l.set i x) := by
 unfold AZ
 rw [List.map_set]
theorem SU (n m : Nat) (hm : m ≤ 2) : List.replicate m [SV.int .i64 0] = AZ (BF n m 0) := by
 match m, hm with
 | 0, _ => rfl
 | 1, _ => rfl
 | 2, _ => simp [AZ, BF, List.replicate]
theorem LM {n m : Nat} (hm : m ≤ 2) : 0 < C1 n m ↔ (0 < n ∨ m = 0) := by
 match m, hm with
 | 0, _ => simp [C1]
 | 1, _ => simp [C1]
 | 2, _ =>
  show 0 < n * n ↔ _
  constructor
  ·intro h
   rcases Nat.eq_zero_or_pos n with h0 | h0
   ·subst h0; omega
   ·exact .inl h0
  ·rintro (h | h)
   ·exact Nat.mul_pos h h
   ·omega
theorem Gb (n m : Nat) (hm : m ≤ 2) (hn : n ≤ 1000000) : Qx Try.prog 57 [.one (.eptr [.int .i64 m]), .one (.eptr [.int .i64 n])] (fun _ => True) 3 1 AZ (CH n m) := by
 intro y rid Inv Jx T0 hy hrid _ hfr hround h0
 refine HI.acR fun hclean C hC htop => ?_
 unfold D5
 have s7 : T0 7 = none := BQ hclean (by omega)
 have hr7 : rid ≠ 7 := by omega
 refine W ?_
 refine Wo (fun K hK => ?_)
 (try simp only [go_sem, fN, seval, eT, iR, AS.startS, s7])
 (repeat with_reducible refine Ai ?_)
 refine hK _ ?_
 clear hK K
 refine W ?_
 refine IWP.ghost (Ae.renameM 4 7 rid 5 (e := 3) (wd := 1) (xs := List.replicate m [SV.int .i64 0]) (by simp [AF]) (by simp [AF]) (by
  show AF T0 7 _ rid = none
  rw [AD _ hr7]
  exact hfr _ _ h0) (by simp; omega) (by rw [hC]; decide)) ?_
 repeat' with_reducible first | refine W ?_ | refine Z0 ?_ | ((first | refine Wo fun K hK => ?_ | refine Wq ?_ | refine Wr ?_); (try simp only [go_sem, fN, seval, eT, iR]); (repeat refine Ai ?_); (try (refine hK _ ?_; clear hK K)))
 refine IWP.loop (fun q s => ∃ k T row, (k < C1 n m ∨ (k = 0 ∧ C1 n m = 0)) ∧ q = C1 n m - k ∧ s.env 0 = .one (.yld y) ∧ s.env 1 = .one (.eptr [.int .i64 m]) ∧ s.env 2 = .one (.eptr [.int .i64 n]) ∧ s.env 4 = .one (.row rid m) ∧ s.S rid = some (.mrow 3 1 (AZ row)) ∧ row.length = m ∧ (k < C1 n m → row = BF n m k) ∧ (∀ i, 1000 ≤ i → i ≠ rid → s.S i = T i) ∧ Al T ∧ T rid = none ∧ Inv ((List.range k).map (BF n m)) T) (C1 n m)
  ⟨0, T0, BF n m 0, by omega, rfl, rfl, rfl, rfl, by simp [AF], by rw [← SU n m hm]; exact AB _ _ _, G2 n m 0 hm, fun _ => rfl, fun i hi hne => by
   show AF (AF (AF T0 7 _) 7 _) rid _ i = _
   rw [AD _ hne, AD _ (by omega), AD _ (by omega)], hclean, hfr _ _ h0, by simpa using h0⟩ ?_
 rintro q ⟨env, S⟩ ⟨k, T, row, hk, rfl, e0, e1, e2, e4, sr, hrl, hrow, hST, hT, hTr, hI⟩
 simp only at e0 e1 e2 e4 sr hST
 have fin0 : ∀ {e : AX} {env' : Nat → AV} {S' : AA} {V : AA} {r : List Nat}, (match e with | .normal => True | .ret => True | _ => False) → Al V → (∀ i, 1000 ≤ i → i ≠ rid → S' i = V i) → S' rid = some (.mrow 3 1 (AZ r)) → (Inv (CH n m) V ∨ Jx V) → Qh C [] (fun _ T' => ∃ V b, T' = AF V rid (some b) ∧ (Inv (CH n m) V ∨ Jx V)) e ⟨env', S'⟩ := fun {e env' S' V r} he hV hs hr hp => ⟨.tup [], AF V rid (some (.mrow 3 1 (AZ r))), ⟨V, _, rfl, hp⟩, Bv (.tup []) (Ay hV hrid rfl) he rfl rfl fun i hi => by
  by_cases e : i = rid
  ·subst e
   rw [AB]
   exact hr
  ·rw [AD _ e]
   exact hs i hi e⟩
 by_cases hpos : 0 < n ∨ m = 0
 case neg =>
  have h1 : ¬ (0 : Int) < n := by omega
  have h2 : ¬ (m : Int) = 0 := by omega
  have h3 : C1 n m = 0 := by
   have := fun h => hpos ((LM (n := n) hm).1 h)
   exact Nat.eq_zero_of_not_pos this
  have hk0 : k = 0 := by omega
  subst hk0
  have hall : CH n m = [] := by rw [CH, h3]; rfl
  repeat' with_reducible first | refine W ?_ | refine Z0 ?_ | ((first | refine Wo fun K hK => ?_ | refine Wp ?_ | refine Wq ?_ | refine Wr ?_); (try simp only [go_sem, fN, seval, eT, iR, e0, e1, e2, e4, h1, h2, dT, dF, nL]); (repeat refine Ai ?_); (try (refine hK _ ?_; clear hK K)); try refine iC ?_)
  exact fin0 trivial hT hST sr (.inl (by rw [hall]; exact hI))
 case pos =>
  have hpn : 0 < C1 n m := (LM hm).2 hpos
  have hkl : k < C1 n m := by omega
  obtain rfl := hrow hkl
  have hlen : (AZ (BF n m k)).length = m := by rw [BM, G2 n m k hm]
  have hpre : ((List.range k).map (BF n m)) ++ [BF n m k] = (List.range (k + 1)).map (BF n m) := by
   rw [List.range_succ, List.map_append]
   rfl
  have hy' := hround ((List.range k).map (BF n m)) (BF n m k) (by rw [hpre]; exact P5 (by omega)) T hI
  rw [hpre, hlen] at hy'
  have harg : Fz S (.one (.row rid m)) = .one (.row rid m) := by simp [Fz, outV, outC, stC, sr]
  have hSx : ∀ i, 1000 ≤ i → S i = AF T rid (some (.mrow 3 1 (AZ (BF n m k)))) i := fun i hi => by
   by_cases e : i = rid
   ·subst e
    rw [AB]
    exact sr
   ·rw [AD _ e]
    exact hST i hi e
  have hhi : ((AV.one (AC.yld y)).high && AV.highs [.one (.row rid m)]) = true := by
   show ((AC.yld y).high && ((AC.row rid m).high && true)) = true
   rw [LU hy, Mf hrid]
   rfl
  by_cases h1 : (0 : Int) < n
  ·repeat' with_reducible first | refine W ?_ | refine Z0 ?_ | ((first | refine Wo fun K hK => ?_ | refine Wp ?_ | refine Wq ?_ | refine Wr ?_); (try simp only [go_sem, fN, seval, eT, iR, e0, e1, e2, e4, h1, sr, hlen, dT, dF, nL]); (repeat refine Ai ?_); (try (refine hK _ ?_; clear hK K)); try refine iC ?_)
   rw [harg]
   refine Kb.mk (AF T rid (some (.mrow 3 1 (AZ (BF n m k))))) _ (Ay hT hrid rfl) hSx hhi hy' ?_
   rintro r S' hS' ⟨V, rfl, hVr, ⟨rfl, hI'⟩ | ⟨rfl, hJ⟩⟩
   ·have hVc : Al V := Ck hS' hVr
    have hj : ∀ i, 1000 ≤ i → i ≠ rid → CV S (AF V rid (some (.mrow 3 1 (AZ (BF n m k))))) i = V i := fun i hi hne => by rw [A3 hi, AD _ hne]
    have hjr : CV S (AF V rid (some (.mrow 3 1 (AZ (BF n m k))))) rid = some (.mrow 3 1 (AZ (BF n m k))) := by rw [A3 hrid, AB]
    generalize CV S (AF V rid (some (.mrow 3 1 (AZ (BF n m k))))) = S1 at hj hjr ⊢
    repeat' with_reducible first | refine W ?_ | refine Z0 ?_ | ((first | refine Wo fun K hK => ?_ | refine Wp ?_ | refine Wq ?_ | refine Wr ?_); (try simp only [go_sem, fN, seval, eT, iR, e0, e1, e2, e4, dT, dF, nL]); (repeat refine Ai ?_); (try (refine hK _ ?_; clear hK K)); try refine iC ?_)
    refine IWP.loop (fun q s => ∃ (i : Int) (row : List Nat), EN n m k i row ∧ q = (i + 1).toNat ∧ s.env 0 = .one (.yld y) ∧ s.env 1 = .one (.eptr [.int .i64 m]) ∧ s.env 2 = .one (.eptr [.int .i64 n]) ∧ s.env 4 = .one (.row rid m) ∧ s.env 5 = AN i ∧ s.S rid = some (.mrow 3 1 (AZ row)) ∧ ∀ i, 1000 ≤ i → i ≠ rid → s.S i = V i) _ ⟨(m : Int) - 1, BF n m k, Ke hm, rfl, e0, e1, e2, e4, rfl, hjr, hj⟩ ?_
    clear hj hjr hSx hST sr hI hT e0 e1 e2 e4 harg
    rintro q ⟨env, S⟩ ⟨i, row, htu, rfl, e0, e1, e2, e4, e5, sr, hST⟩
    simp only at e0 e1 e2 e4 e5 sr hST
    have hil := Oe hm htu
    have hrl := M1 hm htu
    have hel : (AZ row).length = m := by rw [BM, hrl]
    by_cases hi0 : 0 ≤ i
    ·obtain ⟨j, rfl⟩ : ∃ j : Nat, i = j := ⟨i.toNat, by omega⟩
     obtain ⟨x, hx⟩ := Ad (show j < row.length by omega)
     have hx' := Bk hx
     have hjl : j < (AZ row).length := by omega
     have hset : (AZ row).set j [.int .i64 ((x : Int) + 1)] = AZ (row.set j (x + 1)) := DG row j (x + 1)
     have hjm : (j : Int) < m := hil.2
     have hxn : x < n := Mz hm hkl htu x (AR hx)
     have hel2 : (AZ (row.set j (x + 1))).length = m := by rw [BM, List.length_set, hrl]
     have hj2 : (row.set j (x + 1))[j]? = some (x + 1) := by
      rw [List.getElem?_set_self (by omega)]
     have hg2 : (AZ (row.set j (x + 1)))[j]? = some (Cz ((x : Int) + 1)) := Bk hj2
     have hset2 : (AZ (row.set j (x + 1))).set j [.int .i64 0] = AZ ((row.set j (x + 1)).set j 0) := DG (row.set j (x + 1)) j 0
     by_cases hfit : (x : Int) + 1 < n
     ·have hff := NU hm hkl htu hx (by omega)
      have hj0 : ¬ (j : Int) < 0 := by omega
      repeat' with_reducible first | refine W ?_ | refine Z0 ?_ | ((first | refine Wo fun K hK => ?_ | refine Wp ?_ | refine Wq ?_ | refine Wr ?_); (try simp only [go_sem, fN, seval, eT, iR, e0, e1, e2, e4, e5, sr, hx', hjl, hel, hset, hi0, hfit, hrl, hel2, hg2, hjm, hj0, dT, dF, nL]); (repeat refine Ai ?_); (try (refine hK _ ?_; clear hK K)); try refine iC ?_)
      refine AE ⟨C1 n m - (k + 1), by omega, k + 1, V, row.set j (x + 1), .inl hff.1, rfl, e0, e1, e2, e4, AB _ _ _, by rw [List.length_set, hrl], fun _ => hff.2, fun i hi hne => (AD _ hne _).trans (hST i hi hne), hVc, hVr, hI'⟩
     ·have hff := LF hm hkl htu hx (by omega)
      repeat' with_reducible first | refine W ?_ | refine Z0 ?_ | ((first | refine Wo fun K hK => ?_ | refine Wp ?_ | refine Wq ?_ | refine Wr ?_); (try simp only [go_sem, fN, seval, eT, iR, e0, e1, e2, e4, e5, sr, hx', hjl, hel, hset, hi0, hfit, hrl, hel2, hg2, hset2, hjm, dT, dF, nL]); (repeat refine Ai ?_); (try (refine hK _ ?_; clear hK K)); try refine iC ?_)
      refine AE ⟨((j : Int) - 1 + 1).toNat, by omega, (j : Int) - 1, (row.set j (x + 1)).set j 0, hff, rfl, e0, e1, e2, e4, rfl, AB _ _ _, fun i hi hne => (AD _ hne _).trans ((AD _ hne _).trans (hST i hi hne))⟩
    ·have hi1 : i = -1 := by omega
     subst hi1
     have hend := Mr hm hkl htu
     have hall : (List.range (k + 1)).map (BF n m) = CH n m := by rw [hend]; rfl
     rw [hall] at hI'
     repeat' with_reducible first | refine W ?_ | refine Z0 ?_ | ((first | refine Wo fun K hK => ?_ | refine Wp ?_ | refine Wq ?_ | refine Wr ?_); (try simp only [go_sem, fN, seval, eT, iR, e0, e1, e2, e4, e5, dT, dF, nL]); (repeat refine Ai ?_); (try (refine hK _ ?_; clear hK K)); try refine iC ?_)
     exact fin0 trivial hVc hST sr (.inl hI')
   ·have hVc : Al V := Ck hS' hVr
    repeat' with_reducible first | refine W ?_ | refine Z0 ?_ | ((first | refine Wo fun K hK => ?_ | refine Wp ?_ | refine Wq ?_ | refine Wr ?_); (try simp only [go_sem, fN, seval, eT, iR, e0, e1, e2, e4, dT, dF, nL]); (repeat refine Ai ?_); (try (refine hK _ ?_; clear hK K)); try refine iC ?_)
    refine fin0 trivial hVc (fun i hi hne => by rw [A3 hi, AD _ hne]) (by rw [A3 hrid, AB]) (.inr hJ)
  ·have h2 : m = 0 := by omega
   subst h2
   have h3 : (((0 : Nat) : Int) = 0) := rfl
   have hk0 : k = 0 := by
    have : k < 1 := hkl
    omega
   subst hk0
   repeat' with_reducible first | refine W ?_ | refine Z0 ?_ | ((first | refine Wo fun K hK => ?_ | refine Wp ?_ | refine Wq ?_ | refine Wr ?_); (try simp only [go_sem, fN, seval, eT, iR, e0, e1, e2, e4, h1, h3, sr, hlen, dT, dF, nL]); (repeat refine Ai ?_); (try (refine hK _ ?_; clear hK K)); try refine iC ?_)
   rw [harg]
   refine Kb.mk (AF T rid (some (.mrow 3 1 (AZ (BF n 0 0))))) _ (Ay hT hrid rfl) hSx hhi hy' ?_
   rintro r S' hS' ⟨V, rfl, hVr, ⟨rfl, hI'⟩ | ⟨rfl, hJ⟩⟩
   ·have hVc : Al V := Ck hS' hVr
    repeat' with_reducible first | refine W ?_ | refine Z0 ?_ | ((first | refine Wo fun K hK => ?_ | refine Wp ?_ | refine Wq ?_ | refine Wr ?_); (try simp only [go_sem, fN, seval, eT, iR, e0, e1, e2, e4, h1, h3, dT, dF, nL]); (repeat refine Ai ?_); (try (refine hK _ ?_; clear hK K)); try refine iC ?_)
    refine IWP.loop (fun q s => s.env 5 = AN (-1) ∧ s.S rid = some (.mrow 3 1 (AZ (BF n 0 0))) ∧ ∀ i, 1000 ≤ i → i ≠ rid → s.S i = V i) 0 ⟨rfl, by show CV S _ rid = _; rw [A3 hrid, AB], fun i hi hne => by show CV S _ i = _; rw [A3 hi, AD _ hne]⟩ ?_
    rintro q ⟨env, S⟩ ⟨e5, sr, hST⟩
    simp only at e5 sr hST
    repeat' with_reducible first | refine W ?_ | refine Z0 ?_ | ((first | refine Wo fun K hK => ?_ | refine Wp ?_ | refine Wq ?_ | refine Wr ?_); (try simp only [go_sem, fN, seval, eT, iR, e5, dT, dF, nL]); (repeat refine Ai ?_); (try (refine hK _ ?_; clear hK K)); try refine iC ?_)
    exact fin0 trivial hVc hST sr (.inl hI')
   ·have hVc : Al V := Ck hS' hVr
    repeat' with_reducible first | refine W ?_ | refine Z0 ?_ | ((first | refine Wo fun K hK => ?_ | refine Wp ?_ | refine Wq ?_ | refine Wr ?_); (try simp only [go_sem, fN, seval, eT, iR, e0, e1, e2, e4, h1, h3, dT, dF, nL]); (repeat refine Ai ?_); (try (refine hK _ ?_; clear hK K)); try refine iC ?_)
    refine fin0 trivial hVc (fun i hi hne => by rw [A3 hi, AD _ hne]) (by rw [A3 hrid, AB]) (.inr hJ)
theorem Lj (n m : Nat) : Ap Try.prog 35 [AN n, AN m] (.one (.fn 57 [.eptr [.int .i64 m], .eptr [.int .i64 n]])) := by
 refine Hs.ac fun C hC => ?_
 unfold Ek
 refine W ?_
 refine Wo (fun K hK => ?_)
 (try simp only [go_sem, fN, seval, eT, iR, AS.start])
 (repeat with_reducible refine Ai ?_)
 refine hK _ ?_
 clear hK K
 refine W ?_
 refine IWP.ghost (Ae.freeze 2 [2] (xs := [.int .i64 n]) rfl (by simp) (by simp [AF])) ?_
 refine IWP.ghost (Ae.freeze 3 [3] (xs := [.int .i64 m]) rfl (by simp) (by simp [AF])) ?_
 repeat' with_reducible first | refine W ?_ | refine Z0 ?_ | ((first | refine Wo fun K hK => ?_ | refine Wq ?_ | refine Wr ?_); (try simp only [go_sem, fN, seval, eT, iR, List.mem_singleton, AS.caps]); (repeat refine Ai ?_); (try (refine hK _ ?_; clear hK K)))
 simp only [go_sem, fN, seval, Ab, AS.result, AI, AJ, AW, List.all_cons, List.all_nil, AC.stay]
 rfl

open Go.Proofs Go.Shelf
def Try.sortBd_ren : Go.Shelf.Ren := ⟨fun | 6 => 54 | 15 => 68 | 14 => 67 | 28 => 84 | 29 => 85 | 20 => 76 | 21 => 77 | 22 => 78 | 23 => 79 | 24 => 80 | 25 => 81 | 26 => 82 | 27 => 83 | 46 => 91 | 47 => 92 | 48 => 93 | 49 => 94 | 50 => 95 | 57 => 98 | n => n, fun | 22 => 63 | 24 => 72 | 25 => 100 | 3 => 3 | 39 => 111 | 0 => 0 | 53 => 124 | 55 => 65 | 4 => 4 | 46 => 118 | 45 => 117 | 50 => 77 | 5 => 5 | 9 => 9 | 66 => 134 | 70 => 138 | 76 => 146 | 77 => 147 | n => n, fun | n => n⟩
theorem Try.sortBd : Go.Proofs.SlLaysF0.n6 Try.prog Try.sortBd_ren := {
 mixed := by kernel_rfl
 f6 := ⟨Try.f54.name, by decide, Try.func54.trans (congrArg some (by kernel_rfl))⟩
 f14 := ⟨Try.f67.name, by decide, Try.func67.trans (congrArg some (by kernel_rfl))⟩
 f15 := Try.func68.trans (congrArg some (by kernel_rfl))
 f20 := ⟨Try.f76.name, by decide, Try.func76.trans (congrArg some (by kernel_rfl))⟩
 f21 := ⟨Try.f77.name, by decide, Try.func77.trans (congrArg some (by kernel_rfl))⟩
 f22 := ⟨Try.f78.name, by decide, Try.func78.trans (congrArg some (by kernel_rfl))⟩
 f23 := ⟨Try.f79.name, by decide, Try.func79.trans (congrArg some (by kernel_rfl))⟩
 f24 := ⟨Try.f80.name, by decide, Try.func80.trans (congrArg some (by kernel_rfl))⟩
 f25 := ⟨Try.f81.name, by decide, Try.func81.trans (congrArg some (by kernel_rfl))⟩
 f26 := ⟨Try.f82.name, by decide, Try.func82.trans (congrArg some (by kernel_rfl))⟩
 f27 := ⟨Try.f83.name, by decide, Try.func83.trans (congrArg some (by kernel_rfl))⟩
 f28 := Try.func84.trans (congrArg some (by kernel_rfl))
 f29 := Try.func85.trans (congrArg some (by kernel_rfl))
 f46 := ⟨Try.f91.name, by decide, Try.func91.trans (congrArg some (by kernel_rfl))⟩
 f47 := Try.func92.trans (congrArg some (by kernel_rfl))
 f48 := Try.func93.trans (congrArg some (by kernel_rfl))
 f49 := ⟨Try.f94.name, by decide, Try.func94.trans (congrArg some (by kernel_rfl))⟩
 f50 := ⟨Try.f95.name, by decide, Try.func95.trans (congrArg some (by kernel_rfl))⟩
 f57 := ⟨Try.f98.name, by decide, Try.func98.trans (congrArg some (by kernel_rfl))⟩
 t0 := Try.underlying0
 a0 := Try.isAgg0
 z0 := Try.sizeOf0
 v0 := Try.zeroValue0
 t3 := Try.underlying3
 a3 := Try.isAgg3
 z3 := Try.sizeOf3
 v3 := Try.zeroValue3
 t4 := Try.underlying4
 a4 := Try.isAgg4
 z4 := Try.sizeOf4
 v4 := Try.zeroValue4
 t5 := Try.underlying5
 a5 := Try.isAgg5
 z5 := Try.sizeOf5
 v5 := Try.zeroValue5
 t9 := Try.underlying9
 a9 := Try.isAgg9
 z9 := Try.sizeOf9
 v9 := Try.zeroValue9
 t22 := Try.underlying63
 a22 := Try.isAgg63
 z22 := Try.sizeOf63
 v22 := Try.zeroValue63
 t25 := Try.underlying100
 a25 := Try.isAgg100
 z25 := Try.sizeOf100
 v25 := Try.zeroValue100
 t39 := Try.underlying111
 a39 := Try.isAgg111
 z39 := Try.sizeOf111
 v39 := Try.zeroValue111
 t45 := Try.underlying117
 a45 := Try.isAgg117
 z45 := Try.sizeOf117
 v45 := Try.zeroValue117
 t46 := Try.underlying118
 a46 := Try.isAgg118
 z46 := Try.sizeOf118
 v46 := Try.zeroValue118
 t50 := Try.underlying77
 a50 := Try.isAgg77
 z50 := Try.sizeOf77
 v50 := Try.zeroValue77
 t53 := Try.underlying124
 a53 := Try.isAgg124
 z53 := Try.sizeOf124
 v53 := Try.zeroValue124
 t55 := Try.underlying65
 a55 := Try.isAgg65
 z55 := Try.sizeOf65
 v55 := Try.zeroValue65
 t66 := Try.underlying134
 a66 := Try.isAgg134
 z66 := Try.sizeOf134
 v66 := Try.zeroValue134
 t70 := Try.underlying138
 a70 := Try.isAgg138
 z70 := Try.sizeOf138
 v70 := Try.zeroValue138
 t76 := Try.underlying146
 a76 := Try.isAgg146
 z76 := Try.sizeOf146
 v76 := Try.zeroValue146
 t77 := Try.underlying147
 a77 := Try.isAgg147
 z77 := Try.sizeOf147
 v77 := Try.zeroValue147 }


def Ec : IR :=
 (.seq (.ops [.i 2 (.mov (.c (.one (.full []))))]) (.seq (.ops [.i 10 (.makeMap (some (Go.Proofs.Ytkegjgodjigjfaa.KK.two none (some .i64)))), .m 3 10]) (.seq (.seq (.ops [.m 11 0, .i 12 (.len false (.t 11)), .i 13 (.mov (.n 0))]) (.block 0 (.loop (.seq (.ops [.i 14 (.bin .lss (.t 13) (.t 12))]) (.seq (.cond (.t 14) .skip (.exit 0)) (.seq (.block 1 (.seq (.ops [.i 15 (.indexAddr 3 (.t 11) (.t 13)), .L 16 3 15, .i 5 (.alloc 25 [.st (.int .i64 0), .full [], .full []]), .s 3 5 16]) (.seq (.ops [.f 17 1 5, .l 18 17, .i 19 (.len false (.t 18)), .i 20 (.mov (.n 0))]) (.block 2 (.loop (.seq (.ops [.i 21 (.bin .lss (.t 20) (.t 19))]) (.seq (.cond (.t 21) .skip (.exit 2)) (.seq (.block 3 (.seq (.ops [.i 22 (.indexAddr 3 (.t 18) (.t 20)), .L 23 3 22, .i 7 (.alloc 46 [.st (.str (ByteArray.mk (#[]))), .full [], .st (.int .i64 0)]), .s 3 7 23]) (.ops [.m 24 3, .f 25 0 7, .l 26 25, .f 27 1 7, .l 28 27, .i 29 (.len false (.t 28)), .i 30 (.build [.st (.str (ByteArray.mk (#[]))), .st (.int .i64 0)] [(0, 1, .t 26), (1, 1, .t 29)]), .mk none none (.mapSet (some (Go.Proofs.Ytkegjgodjigjfaa.KK.two none (some .i64))) (.t 24) (.t 30) (.c (.one (.st (.bool true))))) .no]))) (.ops [.i 31 (.bin .add (.t 20) (.n 1)), .m 20 31]))))))))) (.ops [.i 32 (.bin .add (.t 13) (.n 1)), .m 13 32]))))))) (.seq (.ops [.i 8 (.mov (.c (.one (.full []))))]) (.seq (.seq (.ops [.m 33 3, .i 34 (.rangeM (.t 33))]) (.block 4 (.loop (.seq (.ops [.i 35 (.next (.t 34)), .i 36 (.extract 0 (.t 35))]) (.seq (.cond (.t 36) .skip (.exit 4)) (.block 5 (.seq (.ops [.i 37 (.entry (.t 34)), .i 38 (.extract 0 (.t 37)), .i 9 (.alloc 72 [.st (.str (ByteArray.mk (#[]))), .st (.int .i64 0)]), .s 2 9 38]) (.ops [.m 39 8, .L 40 2 9, .i 41 (.buildSlice false 72 2 [.t 40]), .i 42 (.append true 72 2 24 (.t 39) (.t 41)), .m 8 42])))))))) (.seq (.ops [.m 43 8, .i 44 (.callS 54 [.t 43, .c (.one (.fn 55 []))])]) (.seq (.ops [.m 45 8, .m 2 45]) .ret)))))))
theorem Hd : OkF Try.prog 32 46 [42, 44] Ec [.t 2] := .of Try.func32 rfl rfl (by kernel_rfl) rfl


open Go.Lib Go.Sort
set_option maxHeartbeats 1000000
abbrev Cy := ByteArray × Fin 100
def Bp (x : Cy) : List Value := [.string x.1, .int .i64 (x.2.val : Int)]
def Mp (x y : Cy) : Int := if x.1 = y.1 then (x.2.val : Int) - y.2.val else if sLt x.1 y.1 = true then -1 else 1
def Cy.sym (x : Cy) : Sym := (x.1, x.2.val)
theorem CR {x y : Cy} : Mp x y < 0 ↔ DS x.sym y.sym = true := by
 unfold Mp DS Cy.sym
 dsimp only
 split
 ·simp only [decide_eq_true_eq]; omega
 ·split
  ·rename_i h; simp [h]
  ·rename_i h; simp [h]
theorem PZ (x y : Cy) (W : World) : Calls Try.prog 55 #[.agg (Bp x).toArray, .agg (Bp y).toArray] W fun e w' => e = .returned (.int .i64 (Mp x y)) ∧ ∃ q os', w' = grow (W.drewN q) os' := by
 obtain ⟨x, i⟩ := x
 obtain ⟨y, j⟩ := y
 have hi := i.isLt
 have hj := j.isLt
 generalize hr : Mp (x, i) (y, j) = r
 unfold Mp at hr
 dsimp only at hr
 unfold Bp
 have hlt : sLt x y = Op.bytesLess x.toList y.toList := rfl
 have hin : inR .i64 ((i.val : Int) - j.val) := by rw [KS]; omega
 have hw := B0 hin
 go_enter Try.func55, Try.ntmps55
 go_wp2_with fail
 all_goals go_ret
 all_goals refine ⟨?_, 0, _, by rw [alloc_eq_grow, alloc_eq_grow, grow_grow]; rfl⟩
 all_goals rw [B2] at *
 all_goals simp_all
theorem QT : SWO (ltOf Mp) where
 irrefl x := by
  simp only [ltOf, decide_eq_false_iff_not]
  intro h
  have := CR.1 h
  rw [EI] at this
  cases this
 trans x y z h k := by
  simp only [ltOf, decide_eq_true_eq] at *
  exact CR.2 (De (CR.1 h) (CR.1 k))
 ntrans x y z h k := by
  simp only [ltOf, decide_eq_false_iff_not] at *
  intro e
  have e := CR.1 e
  rcases E2 y.sym z.sym with q | q | q
  ·exact k (CR.2 q)
  ·rw [← q] at e; exact h (CR.2 e)
  ·exact h (CR.2 (De e q))
def Gw (s : Sym) : List SV := [.str s.1, .int .i64 (s.2 : Int)]
abbrev SP (s : Sym) : AV := .agg [.st (.str s.1), .st (.int .i64 (s.2 : Int))]
abbrev Cx (l : List Sym) : AV := .one (.st (.list (l.map Gw)))
instance lensEncY : MC Gw 2 := ⟨fun _ => rfl⟩
def OD (σ : Sto) (x : Cy) (b : Sym) : Prop := x.sym = b ∧ AT (Am σ) (Bp x) (Gw b)
theorem My {α β : Type} {R : α → β → Prop} {l1 l2 : List α} (hp : l1.Perm l2) : ∀ {m1 : List β}, AT R l1 m1 → ∃ m2, AT R l2 m2 ∧ m1.Perm m2 := by
 induction hp with
 | nil => intro m1 h; exact ⟨m1, h, List.Perm.refl _⟩
 | cons x _ ih =>
  intro m1 h
  cases h with
  | cons h1 h2 =>
   obtain ⟨m2, q1, q2⟩ := ih h2
   exact ⟨_ :: m2, .cons h1 q1, q2.cons _⟩
 | swap x y l =>
  intro m1 h
  cases h with
  | cons h1 h2 =>
   cases h2 with
   | cons h2 h3 => exact ⟨_, .cons h2 (.cons h1 h3), List.Perm.swap _ _ _⟩
 | trans _ _ ih1 ih2 =>
  intro m1 h
  obtain ⟨m2, q1, q2⟩ := ih1 h
  obtain ⟨m3, q3, q4⟩ := ih2 q1
  exact ⟨m3, q3, q2.trans q4⟩
theorem QL {σ : Sto} {b : Sym} (hb : b.2 < 100) {v1 v2 : Value} (h1 : Am σ v1 (.str b.1)) (h2 : Am σ v2 (.int .i64 (b.2 : Int))) : ∃ x : Cy, [v1, v2] = Bp x ∧ OD σ x b := by
 have e1 := (Dv (S := noS) (ι := noH) (.one (.st h1))).1
 have e2 := (Aw (S := noS) (ι := noH) (.one (.st h2))).1
 subst e1 e2
 exact ⟨(b.1, ⟨b.2, hb⟩), rfl, rfl, .cons h1 (.cons h2 .nil)⟩
theorem HT {σ : Sto} {vs : Array Value} : ∀ (l : List Sym) (base : Nat), (∀ s ∈ l, s.2 < 100) → (∀ k b, l[k]? = some b → ∀ j a, (Gw b)[j]? = some a → ∃ v, vs[base + k * 2 + j]? = some v ∧ Am σ v a) →
  ∃ d : List Cy, AT (OD σ) d l ∧ ∀ k x j v, d[k]? = some x → (Bp x)[j]? = some v → vs[base + k * 2 + j]? = some v
 | [], base, _, _ => ⟨[], .nil, by simp⟩
 | b :: l, base, hb, h => by
  obtain ⟨d, d1, d2⟩ := HT l (base + 2) (fun s hs => hb s (by simp [hs])) (fun k c hc j a ha => by
   obtain ⟨v, v1, v2⟩ := h (k + 1) c (by simpa using hc) j a ha
   exact ⟨v, by rw [← v1]; congr 1; omega, v2⟩)
  obtain ⟨u1, p1, q1⟩ := h 0 b rfl 0 _ rfl
  obtain ⟨u2, p2, q2⟩ := h 0 b rfl 1 _ rfl
  obtain ⟨x, x1, x2⟩ := QL (hb b (by simp)) q1 q2
  refine ⟨x :: d, .cons x2 d1, fun k y j v hy hv => ?_⟩
  cases k with
  | zero =>
   simp only [List.getElem?_cons_zero, Option.some.injEq] at hy
   subst hy
   rw [← x1] at hv
   match j, hv with
   | 0, hv => cases hv; exact p1
   | 1, hv => cases hv; exact p2
   | j + 2, hv => simp at hv
  | succ k =>
   have := d2 k y j v (by simpa using hy) hv
   rw [← this]
   congr 1
   omega
theorem Gl (x : Cy) : (Bp x).length = 2 := rfl
theorem Jz {d : Array Cy} {t : Nat} (h : t < d.size * 2) : ∃ x v, d[t / 2]? = some x ∧ (Bp x)[t % 2]? = some v ∧ (flatK Bp 2 d)[t]! = v := by
 have hk : t / 2 < d.size := by omega
 have hj : t % 2 < (Bp d[t / 2]).length := by rw [Gl]; omega
 refine ⟨d[t / 2], (Bp d[t / 2])[t % 2], Array.getElem?_eq_getElem hk, List.getElem?_eq_getElem hj, ?_⟩
 rw [get_flatK _ _ _ _ h, getElem!_pos d (t / 2) hk, getElem!_pos (Bp d[t / 2]) (t % 2) hj]
theorem NV (w : World) (g n : Nat) (d : Array Cy) (os : Array Obj) (vs : Array Value) (e : TypeId) (hg : w.heap[g]? = some (.cells vs e (0, 0))) :
  (sortWorldK Bp 2 w g 0 n d os).heap[g]? = some (.cells (putCells id 0 (flatK Bp 2 d) vs) e (0, 0)) ∧ (∀ k, k < w.heap.size → k ≠ g → (sortWorldK Bp 2 w g 0 n d os).heap[k]? = w.heap[k]?) ∧ w.heap.size ≤ (sortWorldK Bp 2 w g 0 n d os).heap.size := by
 have hlt := (Array.getElem?_eq_some_iff.1 hg).1
 have hsz : (putRowK Bp 2 (Sort.ahead w n) g 0 d).heap.size = w.heap.size := by simp [putRowK, putRow, mapBlock, Sort.ahead]
 refine ⟨?_, fun k hk hne => ?_, ?_⟩
 ·unfold sortWorldK
  rw [heap_grow_old _ _ (by rw [hsz]; exact hlt)]
  simp [putRowK, putRow, mapBlock, Sort.ahead, Array.getElem?_modify, hg, onCells]
 ·unfold sortWorldK
  rw [heap_grow_old _ _ (by rw [hsz]; exact hk)]
  simp [putRowK, putRow, mapBlock, Sort.ahead, Array.getElem?_modify, Ne.symm hne]
 ·unfold sortWorldK
  rw [Go.Sort.size_grow, hsz]
  omega
theorem P6 {d : Array Cy} {vs : Array Value} (hs : d.size * 2 ≤ vs.size) {k : Nat} {x : Cy} {j : Nat} {v : Value} (hx : d[k]? = some x) (hv : (Bp x)[j]? = some v) : (putCells id 0 (flatK Bp 2 d) vs)[k * 2 + j]? = some v := by
 have hk := (Array.getElem?_eq_some_iff.1 hx).1
 have hj : j < 2 := by have := (List.getElem?_eq_some_iff.1 hv).1; rw [Gl] at this; exact this
 have hlt : k * 2 + j < d.size * 2 := by omega
 obtain ⟨y, u, h1, h2, h3⟩ := Jz hlt
 have e1 : (k * 2 + j) / 2 = k := by omega
 have e2 : (k * 2 + j) % 2 = j := by omega
 rw [e1, hx] at h1
 cases h1
 rw [e2, hv] at h2
 cases h2
 unfold putCells
 rw [Array.getElem?_mapIdx, Array.getElem?_eq_getElem (by omega), Option.map_some, if_pos (by rw [size_flatK]; omega)]
 simp only [Nat.sub_zero, id, h3]
theorem Oi (d : Array Cy) (vs : Array Value) : (putCells id 0 (flatK Bp 2 d) vs).size = vs.size := by simp [putCells]
theorem QJ {S : AA} {r : Nat} {b : AH} (h : S r = some b) : AF S r (some b) = S := by
 funext k
 unfold AF
 split
 ·rename_i e; rw [e, h]
 ·rfl
theorem NN {d : Array Cy} {vs : Array Value} {t : Nat} (h : d.size * 2 ≤ t) : (putCells id 0 (flatK Bp 2 d) vs)[t]? = vs[t]? := by
 unfold putCells
 rw [Array.getElem?_mapIdx]
 cases hv : vs[t]? with
 | none => rfl
 | some v => rw [Option.map_some, if_neg (by rw [size_flatK]; omega)]
abbrev O4 (l : List Sym) : AH := .mrow 72 2 (l.map Gw)
abbrev EY (l : List Sym) (ys : List (List SV)) : AH := .mrow 72 2 (l.map Gw ++ ys)
theorem M7 (l : List Sym) (ys : List (List SV)) (hys : ∀ y ∈ ys, y.length = 2) (hn : l.Nodup) (hb : ∀ s ∈ l, s.2 < 100) (hl : l.length ≤ 100000) (r : Nat) (hr : 1000 ≤ r) (S : AA) (sr : S r = some (EY l ys)) (hS : Al S) (σ : Sto) (w : World) (ι : Ao) (hF : Fit σ w) (hO : D0 σ S ι w) :
  Calls Try.prog 54 #[.slice (ι r).p l.length (ι r).cap, .func (.func 55) #[] #[]] w fun e w' => ∃ v σ' ι', e = .returned v ∧ Al (AF S r (some (EY (BP l) ys))) ∧ Upd S ι (AF S r (some (EY (BP l) ys))) ι' ∧ D0 σ' (AF S r (some (EY (BP l) ys))) ι' w' ∧ AO σ' (AF S r (some (EY (BP l) ys))) ι' v (.tup []) ∧ Fit σ' w' ∧ (∀ p x, σ p = some x → σ' p = some x) ∧
   (∀ p : Addr, p.block < w.heap.size → Bn S ι p.block → σ' p = σ p) ∧ (w'.os = w.os ∧ w'.tape = w.tape ∧ w'.output = w.output) ∧ w.heap.size ≤ w'.heap.size ∧
   (∀ g, g < w.heap.size → Bn S ι g → w'.heap[g]? = w.heap[g]?) ∧ (∀ id b g, AF S r (some (EY (BP l) ys)) id = some b → (ι' id).g = some g → w.heap.size ≤ g ∨ ¬ Bn S ι g) := by
 have hS' : Al (AF S r (some (EY (BP l) ys))) := Ay hS hr rfl
 have hb : BL σ S ι w (ι r) (.mrow 72 2 (l.map Gw ++ ys)) := hO.1 r _ sr
 generalize hxs : l.map Gw ++ ys = xs at hb
 have hlen : xs.length = l.length + ys.length := by rw [← hxs, List.length_append, List.length_map]
 generalize hh : ι r = hd at hb
 cases hb with
 | mnil k1 k2 =>
  obtain ⟨hl0, hy0⟩ : l = [] ∧ ys = [] := by simpa using hxs
  subst hl0 hy0
  refine (AnyF.slices_SortFunc_none Try.sortBd hd.p hd.cap _ w).mono fun e w' ⟨he, hw⟩ => ?_
  subst hw
  have hid : AF S r (some (EY (BP []) [])) = S := QJ sr
  rw [hid]
  exact ⟨_, σ, ι, he, hS, Upd.refl _ _, hO, .tup (fun _ => undef) rfl (by simp) (by simp), hF, fun _ _ h => h, fun _ _ _ => rfl, ⟨rfl, rfl, rfl⟩, Nat.le_refl _, fun _ _ _ => rfl, fun id b g h1 h2 => .inr fun hno => hno id b h1 h2⟩
 | @mrow _ _ _ g cs k1 k2 k3 k4 k5 k6 k7 k8 k9 =>
  subst hxs
  obtain ⟨d, d1, d2⟩ := HT (σ := σ) (vs := cs) l 0 hb (fun k b hb j a ha => by
   obtain ⟨v, v1, v2⟩ := k8 k (Gw b) j a (by rw [List.getElem?_append_left (by rw [List.length_map]; exact E8 hb), List.getElem?_map, hb]; rfl) ha
   exact ⟨v, by rw [Nat.zero_add]; exact v1, v2⟩)
  have dlen : d.length = l.length := d1.len
  have hcap : l.length ≤ hd.cap := by omega
  have hfits : d.toArray.size * 2 ≤ cs.size := by
   rw [k6]
   simp only [List.size_toArray, dlen]
   exact Nat.mul_le_mul_right 2 hcap
  have hH : HoldsK Bp 2 w g 0 d.toArray := fun j hj => by
   rw [size_flatK] at hj
   obtain ⟨x, v, q1, q2, q3⟩ := Jz hj
   have q1 : d[j / 2]? = some x := by simpa using q1
   have hc := d2 _ _ _ _ q1 q2
   have e : 0 + j / 2 * 2 + j % 2 = j := by omega
   rw [e] at hc
   refine ⟨?_, ?_⟩
   ·rw [cell_of_row w g _ _ _ _ k3, Nat.zero_add, hc, q3]
    rfl
   ·exact Blk.frozen k3 _
  have eg : ∀ args w, (callFunc 55 args).run Try.prog w = .ok (.enter 55 args) w := enters_of Try.func55 (by kernel_rfl) rfl
  have hgl : g < w.heap.size := (Array.getElem?_eq_some_iff.1 k3).1
  have hcon := AnyQ.slices_SortFunc Try.sortBd 2 Try.isAgg72 Try.sizeOf72 Bp Gl (fun x v hv => by simp [Bp] at hv; rcases hv with rfl | rfl <;> rfl) Mp QT 55 #[] g 0 hd.cap d.toArray w eg (fun _ _ _ _ x y => PZ x y _) hH hgl (by simp [dlen]; omega)
  rw [show d.toArray.size = l.length by simp [dlen]] at hcon
  rw [k2, show (l.length) = l.length from rfl]
  refine Calls.mono hcon fun e w' ⟨he, d', n, os, hp, hs, hw⟩ => ?_
  obtain ⟨hp1, hp2, hp3⟩ := hp
  have hd'l : d'.size = l.length := by rw [hp1]; simp [dlen]
  have hperm : d.Perm d'.toList := by
   have e1 : d'.extract 0 l.length = d' := by rw [← hd'l]; exact Array.extract_size
   have e2 : d.toArray.extract 0 l.length = d.toArray := by
    rw [show l.length = d.toArray.size by simp [dlen]]
    exact Array.extract_size
   rw [e1, e2] at hp3
   exact hp3.symm
  obtain ⟨l', l1, l2⟩ := My hperm d1
  have hl'len : l'.length = l.length := l2.length_eq.symm
  have hord : EE l' := by
   unfold EE
   rw [List.pairwise_iff_getElem]
   intro i j hi hj hij
   obtain ⟨x, x1, x2, _⟩ := l1.get (List.getElem?_eq_getElem hi)
   obtain ⟨y, y1, y2, _⟩ := l1.get (List.getElem?_eq_getElem hj)
   have hso := hs i j (Nat.zero_le _) hij (by omega)
   have e1 : d'[i]! = x := by
    rw [Array.getElem?_toList] at x1
    rw [getElem!_def, x1]
   have e2 : d'[j]! = y := by
    rw [Array.getElem?_toList] at y1
    rw [getElem!_def, y1]
   rw [e1, e2] at hso
   simp only [ltOf, decide_eq_false_iff_not] at hso
   have hno : ¬ DS l'[j] l'[i] = true := fun h => hso (CR.2 (by rw [x2, y2]; exact h))
   have hdiff : l'[i] ≠ l'[j] := by
    have hn' := l2.nodup_iff.1 hn
    rw [List.nodup_iff_pairwise_ne, List.pairwise_iff_getElem] at hn'
    exact hn' i j hi hj hij
   rcases E2 l'[i] l'[j] with q | q | q
   ·exact q
   ·exact absurd q hdiff
   ·exact absurd q hno
  have hl' : l' = BP l := GH hord fun x => l2.mem_iff.symm
  subst hl'
  obtain ⟨w1, w2, w3⟩ := NV w g n d' os cs _ k3
  rw [← hw] at w1 w2 w3
  have hfits' : d'.size * 2 ≤ cs.size := by rw [hd'l]; rw [← dlen]; simpa using hfits
  have hupd : Upd S ι (AF S r (some (EY (BP l) ys))) ι := fun id b hb => by
   by_cases e : id = r
   ·subst e
    rw [sr] at hb
    cases hb
    exact ⟨_, AB _ _ _, by simp [AH.len, Bx hn], fun _ => ⟨rfl, rfl⟩⟩
   ·exact ⟨b, by rw [AD _ e]; exact hb, Nat.le_refl _, fun _ => ⟨rfl, rfl⟩⟩
  have hotherg : ∀ id b g', id ≠ r → S id = some b → (ι id).g = some g' → g' ≠ g := fun id b g' hne hb hg' e => by
   subst e
   exact hne (hO.2 id r b _ g' hb sr hg' (by rw [hh]; exact k1))
  have hFit : Fit σ w' := fun p x hp => by
   have hlt := hF.lt hp
   by_cases e : p.block = g
   ·rw [k9 p e] at hp; cases hp
   ·exact (B1 (w2 _ hlt e)).trans (hF p x hp)
  refine ⟨_, σ, ι, he, hS', hupd, ⟨fun id b hb => ?_, fun id id' b b' g' q1 q2 q3 q4 => ?_⟩, .tup (fun _ => undef) rfl (by simp) (by simp), hFit, fun _ _ h => h, fun _ _ _ => rfl, ?_, w3, fun g' q1 q2 => ?_, fun id b g' q1 q2 => ?_⟩
  ·by_cases e : id = r
   ·subst e
    rw [AB] at hb
    cases hb
    rw [hh]
    have hlen' : ((BP l).map Gw ++ ys).length = l.length + ys.length := by rw [List.length_append, List.length_map, Bx hn]
    refine .mrow k1 k2 w1 (by rw [hlen', ← hlen]; exact k4) k5 (by rw [Oi]; exact k6) (fun x hx => ?_) (fun k x j a hx ha => ?_) k9
    ·rcases List.mem_append.1 hx with hx | hx
     ·exact SO (f := Gw) x hx
     ·exact hys x hx
    rcases Nat.lt_or_ge k l.length with hk | hk
    ·rw [List.getElem?_append_left (by rw [List.length_map, Bx hn]; exact hk), List.getElem?_map, Option.map_eq_some_iff] at hx
     obtain ⟨b, hb, rfl⟩ := hx
     obtain ⟨y, y1, y2, y3⟩ := l1.get hb
     obtain ⟨v, v1, v2⟩ := y3.get ha
     exact ⟨v, P6 hfits' (by simpa using y1) v1, v2⟩
    ·rw [List.getElem?_append_right (by rw [List.length_map, Bx hn]; exact hk), List.length_map, Bx hn] at hx
     obtain ⟨v, v1, v2⟩ := k8 k x j a (by rw [List.getElem?_append_right (by rw [List.length_map]; exact hk), List.length_map]; exact hx) ha
     exact ⟨v, by rw [NN (by rw [hd'l]; omega)]; exact v1, v2⟩
   ·rw [AD _ e] at hb
    refine (hO.1 id b hb).mono (fun _ _ h => h) hupd (fun g' hg' => w2 g' ((hO.1 id b hb).gsome hg') (hotherg id b g' e hb hg')) (fun _ _ _ _ => rfl)
  ·have back : ∀ i c, AF S r (some (EY (BP l) ys)) i = some c → ∃ c', S i = some c' := fun i c hc => by
    by_cases e : i = r
    ·subst e; exact ⟨_, sr⟩
    ·rw [AD _ e] at hc; exact ⟨c, hc⟩
   obtain ⟨c1, c1'⟩ := back _ _ q1
   obtain ⟨c2, c2'⟩ := back _ _ q2
   exact hO.2 _ _ _ _ _ c1' c2' q3 q4
  ·rw [hw]
   exact ⟨rfl, rfl, rfl⟩
  ·exact w2 g' q1 fun e => q2 r _ sr (by rw [hh, e]; exact k1)
  ·refine .inr fun hno => ?_
   by_cases e : id = r
   ·subst e; exact hno id _ sr q2
   ·rw [AD _ e] at q1; exact hno id _ q1 q2
theorem Lu (l : List Sym) (hn : l.Nodup) (hb : ∀ s ∈ l, s.2 < 100) (hl : l.length ≤ 100000) (r : Nat) (hr : 1000 ≤ r) (S : AA) (sr : S r = some (O4 l)) :
  BO Try.prog 54 [.one (.row r l.length), .one (.fn 55 [])] S (.tup []) (AF S r (some (O4 (BP l)))) := by
 intro hS σ w vs ι hG hF hO hv
 cases hv with
 | @cons v1 _ _ _ h1 hv =>
 cases hv with
 | @cons v2 _ _ _ h2 hv =>
 cases hv
 obtain ⟨b, b1, b2, b3⟩ := B4 (AP h1)
 rw [sr] at b1
 cases b1
 have hv1 := b3 (by simp [AH.len])
 subst hv1
 have hv2 : v2 = .func (.func 55) #[] #[] := by
  cases AP h2 with
  | @fn _ vs _ c q1 q2 q3 =>
   have e : vs = #[] := Array.eq_empty_of_size_eq_zero (by simpa using q1)
   rw [e]
 subst hv2
 have e : ∀ m : List Sym, O4 m = EY m [] := fun m => by rw [EY, List.append_nil]
 rw [e] at sr ⊢
 exact M7 l [] (by simp) hn hb hl r hr S sr hS σ w ι hF hO

def H5 (a : Au) : List SV := [.int .i64 a.states, .list (a.moves.map Aj), .list (a.last.map Cz)]
instance lensEncAu : MC H5 3 := ⟨fun _ => rfl⟩
instance lensEncMv : MC Aj 3 := ⟨fun _ => rfl⟩
abbrev Ov (l : List Au) : AV := .one (.st (.list (l.map H5)))
def Ok (s : Sym) : KV := .p (.s s.1) (.i (s.2 : Int))
def If (s : Sym) : KV × AV := (Ok s, As true)
abbrev R6 (l : List Sym) : AH := .map (some (.two none (some .i64))) (l.map If)
open Classical in
noncomputable def Fm (l : List Sym) (s : Sym) : List Sym := if s ∈ l then l else l ++ [s]
theorem QC {a b : Sym} : Ok a = Ok b ↔ a = b := by
 obtain ⟨a, i⟩ := a
 obtain ⟨b, j⟩ := b
 simp only [Ok, KV.p.injEq, KV.s.injEq, KV.i.injEq, Prod.mk.injEq]
 exact and_congr_right fun _ => by omega
theorem On (l : List Sym) (s : Sym) : Fh (l.map If) (Ok s) (As true) = (Fm l s).map If := by
 induction l with
 | nil => simp [Fm, Fh, If]
 | cons x l ih =>
  simp only [List.map_cons, Fh, If, QC]
  by_cases e : x = s
  ·subst e
   simp [Fm, If]
  ·rw [if_neg e]
   unfold Fm at ih ⊢
   have e' : ¬ s = x := fun h => e h.symm
   by_cases hm : s ∈ l
   ·rw [if_pos hm] at ih
    rw [if_pos (by simp [hm]), List.map_cons]
    exact congrArg (If x :: ·) ih
   ·rw [if_neg hm] at ih
    rw [if_neg (by simp [hm, e']), List.cons_append, List.map_cons]
    exact congrArg (If x :: ·) ih
theorem Nd {l : List Sym} {s : Sym} (h : l.Nodup) : (Fm l s).Nodup := by
 unfold Fm
 split
 ·exact h
 ·rename_i hm
  rw [List.nodup_append]
  exact ⟨h, by simp, fun a ha b hb e => hm (by rw [← List.mem_singleton.1 hb, ← e]; exact ha)⟩
theorem RA {l : List Sym} {s x : Sym} : x ∈ Fm l s ↔ x ∈ l ∨ x = s := by
 unfold Fm
 split
 ·rename_i hm
  constructor
  ·exact .inl
  ·rintro (h | rfl)
   ·exact h
   ·exact hm
 ·simp
theorem Pa (l : List Sym) (s : Sym) : (Fm l s).length ≤ l.length + 1 := by
 unfold Fm
 split <;> simp
noncomputable def CJ (l : List Sym) (ms : List Mv) : List Sym := ms.foldl (fun l m => Fm l m.sym) l
theorem HW : ∀ {ms : List Mv} {l : List Sym}, l.Nodup → (CJ l ms).Nodup
 | [], l, h => h
 | m :: ms, l, h => HW (ms := ms) (Nd h)
theorem Jy : ∀ {ms : List Mv} {l : List Sym} {x : Sym}, x ∈ CJ l ms ↔ x ∈ l ∨ ∃ m ∈ ms, x = m.sym
 | [], l, x => by simp [CJ]
 | m :: ms, l, x => by
  show x ∈ CJ (Fm l m.sym) ms ↔ _
  rw [Jy, RA]
  simp only [List.mem_cons, exists_eq_or_imp, or_assoc]
theorem KD : ∀ {ms : List Mv} {l : List Sym}, (CJ l ms).length ≤ l.length + ms.length
 | [], l => by simp [CJ]
 | m :: ms, l => by
  have := KD (ms := ms) (l := Fm l m.sym)
  have h2 := Pa l m.sym
  show (CJ (Fm l m.sym) ms).length ≤ _
  simp only [List.length_cons]
  omega
noncomputable def Ce (l : List Sym) (aus : List Au) : List Sym := aus.foldl (fun l a => CJ l a.moves) l
theorem Iu : ∀ {aus : List Au} {l : List Sym} {x : Sym}, x ∈ Ce l aus ↔ x ∈ l ∨ ∃ a ∈ aus, ∃ m ∈ a.moves, x = m.sym
 | [], l, x => by simp [Ce]
 | a :: aus, l, x => by
  show x ∈ Ce (CJ l a.moves) aus ↔ _
  rw [Iu, Jy]
  simp only [List.mem_cons, exists_eq_or_imp, or_assoc]
theorem Lh {aus : List Au} {k : Nat} {a : Au} {l : List Sym} (h : aus[k]? = some a) : Ce l (aus.take (k + 1)) = CJ (Ce l (aus.take k)) a.moves := by
 rw [Af h, Ce, List.foldl_append]
 rfl
theorem NH {ms : List Mv} {k : Nat} {m : Mv} {l : List Sym} (h : ms[k]? = some m) : CJ l (ms.take (k + 1)) = Fm (CJ l (ms.take k)) m.sym := by
 rw [Af h, CJ, List.foldl_append]
 rfl
theorem GY : ∀ {aus : List Au} {l : List Sym}, l.Nodup → (Ce l aus).Nodup
 | [], l, h => h
 | a :: aus, l, h => GY (aus := aus) (HW h)
theorem IL {n : Nat} : ∀ {aus : List Au} {l : List Sym}, (∀ a ∈ aus, a.moves.length ≤ n) → (Ce l aus).length ≤ l.length + aus.length * n
 | [], l, h => by simp [Ce]
 | a :: aus, l, h => by
  have h1 := IL (aus := aus) (l := CJ l a.moves) (fun b hb => h b (by simp [hb]))
  have h2 := KD (ms := a.moves) (l := l)
  have h3 := h a (by simp)
  show (Ce (CJ l a.moves) aus).length ≤ _
  rw [List.length_cons, Nat.add_mul, Nat.one_mul]
  omega
theorem J5 (aus : List Au) (hl : aus.length ≤ 2) (hm : ∀ a ∈ aus, a.moves.length ≤ 1000) (hf : ∀ a ∈ aus, ∀ m ∈ a.moves, m.frm.length < 100) : Ap Try.prog 32 [Ov aus] (Cx (Ah aus)) := by
 refine Hd.ac fun C hC => ?_
 unfold Ec
 repeat' with_reducible first | refine W ?_ | refine Z0 ?_ | ((first | refine Wo fun K hK => ?_ | refine Wp ?_ | refine Wq ?_ | refine Wr ?_); (try simp only [go_sem, fN, seval, eT, iR, dT, dF, nL]); (repeat refine Ai ?_); (try (refine hK _ ?_; clear hK K)); try refine iC ?_)
 refine IWP.loopD [5] (fun q s => ∃ k, k ≤ aus.length ∧ q = aus.length - k ∧ s.env 3 = .one (.mptr 10) ∧ s.S 10 = some (R6 (Ce [] (aus.take k))) ∧ s.env 11 = Ov aus ∧ s.env 12 = AN aus.length ∧ s.env 13 = AN k ∧ s.S 5 = none ∧ s.S 7 = none ∧ s.S 34 = none ∧ s.S 9 = none ∧ s.S 502 = none) aus.length
  ⟨0, Nat.zero_le _, rfl, rfl, rfl, rfl, by simp only [go_sem, fN, seval, eT, iR], rfl, rfl, rfl, rfl, rfl, rfl⟩ ?_
 rintro q ⟨env, S⟩ ⟨k, hk, rfl, e3, s10, e11, e12, e13, s5, s7, s34, s9, s502⟩
 simp only at e3 s10 e11 e12 e13 s5 s7 s34 s9 s502
 by_cases hlt : (k : Int) < aus.length
 ·obtain ⟨a, hak⟩ := Ad (show k < aus.length by omega)
  have ham := AR hak
  have h1 := hm a ham
  have hsn := Lh (l := []) hak
  obtain ⟨L0, hL⟩ : ∃ L0, Ce [] (aus.take k) = L0 := ⟨_, rfl⟩
  rw [hL] at s10 hsn
  repeat' with_reducible first | refine W ?_ | refine Z0 ?_ | ((first | refine Wo fun K hK => ?_ | refine Wp ?_ | refine Wq ?_ | refine Wr ?_); (try simp only [go_sem, fN, seval, eT, iR, e3, s10, e11, e12, e13, s5, s7, s34, s9, s502, hlt, hak, H5, dT, dF, nL]); (repeat refine Ai ?_); (try (refine hK _ ?_; clear hK K)); try refine iC ?_)
  refine IWP.loopD [7] (fun q s => ∃ i, i ≤ a.moves.length ∧ q = a.moves.length - i ∧ s.env 3 = .one (.mptr 10) ∧ s.S 10 = some (R6 (CJ L0 (a.moves.take i))) ∧ s.env 11 = Ov aus ∧ s.env 12 = AN aus.length ∧ s.env 13 = AN k ∧ s.env 18 = .one (.st (.list (a.moves.map Aj))) ∧ s.env 19 = AN a.moves.length ∧ s.env 20 = AN i ∧ s.S 7 = none ∧ s.S 34 = none ∧ s.S 9 = none ∧ s.S 502 = none) a.moves.length
   ⟨0, Nat.zero_le _, rfl, by simp only [go_sem, fN, seval, eT, iR, e3], by (simp only [go_sem, fN, seval, eT, iR, s10]; rfl), by simp only [go_sem, fN, seval, eT, iR, e11], by simp only [go_sem, fN, seval, eT, iR, e12], by simp only [go_sem, fN, seval, eT, iR, e13], by simp only [go_sem, fN, seval, eT, iR], by simp only [go_sem, fN, seval, eT, iR], by simp only [go_sem, fN, seval, eT, iR], by simp only [go_sem, fN, seval, eT, iR, s7], by simp only [go_sem, fN, seval, eT, iR, s34], by simp only [go_sem, fN, seval, eT, iR, s9], by simp only [go_sem, fN, seval, eT, iR, s502]⟩ ?_
  clear e3 e11 e12 e13 s5 s7 s34 s9 s502 s10
  rintro q ⟨env, S⟩ ⟨i, hi, rfl, e3, s10, e11, e12, e13, e18, e19, e20, s7, s34, s9, s502⟩
  simp only at e3 s10 e11 e12 e13 e18 e19 e20 s7 s34 s9 s502
  by_cases hil : (i : Int) < a.moves.length
  ·obtain ⟨m, hmi⟩ := Ad (show i < a.moves.length by omega)
   have hmm := AR hmi
   have hfm := hf a ham m hmm
   have hys := NH (l := L0) hmi
   have hput : Fh ((CJ L0 (a.moves.take i)).map If) (.p (.s m.name) (.i (m.frm.length : Int))) (As true) = (CJ L0 (a.moves.take (i + 1))).map If := by
    rw [hys]
    exact On _ m.sym
   obtain ⟨L1, hL1⟩ : ∃ L1, CJ L0 (a.moves.take i) = L1 := ⟨_, rfl⟩
   rw [hL1] at s10 hput
   repeat' with_reducible first | refine W ?_ | refine Z0 ?_ | ((first | refine Wo fun K hK => ?_ | refine Wp ?_ | refine Wq ?_ | refine Wr ?_); (try simp only [go_sem, fN, seval, eT, iR, e3, s10, e11, e12, e13, e18, e19, e20, s7, s34, s9, s502, hil, hmi, Aj, BR, DP, KV.of2, KV.of1, hput, dT, dF, nL]); (repeat refine Ai ?_); (try (refine hK _ ?_; clear hK K)); try refine iC ?_)
   refine AE ⟨a.moves.length - (i + 1), by omega, i + 1, by omega, rfl, ?_⟩
   simp only [go_sem, fN, seval, AS.drop, AU, AC.clears, AC.clear, AC.highs, AC.high, Bool.not_false, Bool.true_and, Bool.and_self, AV.purge, AV.purges, AC.purge, AH.purge, List.contains_cons, List.contains_nil, Nat.reduceBEq, Bool.or_self, Bool.or_false, Bool.false_or, Bool.or_true, eT, iR, e3, s10, e11, e12, e13, e18, e19, e20, s7, s34, s9, s502]
   rfl
  ·have hie : i = a.moves.length := by omega
   rw [hie, List.take_length] at s10
   repeat' with_reducible first | refine W ?_ | refine Z0 ?_ | ((first | refine Wo fun K hK => ?_ | refine Wp ?_ | refine Wq ?_ | refine Wr ?_); (try simp only [go_sem, fN, seval, eT, iR, e3, s10, e11, e12, e13, e18, e19, e20, s7, s34, s9, s502, hil, dT, dF, nL]); (repeat refine Ai ?_); (try (refine hK _ ?_; clear hK K)); try refine iC ?_)
   refine AE ⟨aus.length - (k + 1), by omega, k + 1, by omega, rfl, ?_⟩
   rw [hsn]
   simp only [go_sem, fN, seval, AS.drop, AU, AC.clears, AC.clear, AC.highs, AC.high, Bool.not_false, Bool.true_and, Bool.and_self, AV.purge, AV.purges, AC.purge, AH.purge, List.contains_cons, List.contains_nil, Nat.reduceBEq, Bool.or_self, Bool.or_false, Bool.false_or, Bool.or_true, eT, iR, e3, s10, e11, e12, e13, e18, e19, e20, s7, s34, s9, s502]
   rfl
 ·have hke : k = aus.length := by omega
  rw [hke, List.take_length] at s10
  have hnod := GY (aus := aus) (l := []) List.nodup_nil
  have hlen := IL (aus := aus) (l := []) hm
  have hmem := fun x => Iu (aus := aus) (l := []) (x := x)
  obtain ⟨L, hL⟩ : ∃ L, Ce [] aus = L := ⟨_, rfl⟩
  rw [hL] at s10 hnod hlen
  simp only [hL] at hmem
  have hsy : Ah aus = BP L := H8 fun x => by
   rw [hmem, List.mem_flatMap]
   simp [eq_comm]
  have hlL : L.length ≤ 2000 := by
   have : aus.length * 1000 ≤ 2 * 1000 := Nat.mul_le_mul_right _ hl
   simp only [List.length_nil] at hlen
   omega
  have hbL : ∀ s ∈ L, s.2 < 100 := fun s hs => by
   rcases (hmem s).1 hs with h | ⟨a, ha, m, hmm, rfl⟩
   ·cases h
   ·exact hf a ha m hmm
  rw [hsy]
  repeat' with_reducible first | refine W ?_ | refine Z0 ?_ | ((first | refine Wo fun K hK => ?_ | refine Wp ?_ | refine Wq ?_ | refine Wr ?_); (try simp only [go_sem, fN, seval, eT, iR, e3, s10, e11, e12, e13, s5, s7, s34, s9, s502, hlt, BR, dT, dF, nL]); (repeat refine Ai ?_); (try (refine hK _ ?_; clear hK K)); try refine iC ?_)
  refine IWP.ghost (Ae.ownM 8 502 72 2 (by rfl) (by simp only [go_sem, fN, seval, eT, iR, s502]) (by rw [hC]; decide)) ?_
  refine IWP.loopD [9] (fun m x => ∃ seen : List Nat, seen.Nodup ∧ (∀ j ∈ seen, j < L.length) ∧ m = L.length - seen.length ∧ x.env 8 = .one (.row 502 seen.length) ∧ x.env 34 = .one (.ptr 34 1 0 0) ∧ x.S 10 = some (R6 L) ∧ x.S 34 = some (.iter (.mptr 10) L.length seen) ∧ x.S 502 = some (O4 (met L seen)) ∧ x.S 9 = none) L.length ⟨[], List.nodup_nil, by simp, rfl, rfl, rfl, by simp only [go_sem, fN, seval, eT, iR, s10], by simp only [go_sem, fN, seval, eT, iR], by (simp only [go_sem, fN, seval, eT, iR]; rfl), by simp only [go_sem, fN, seval, eT, iR, s9]⟩ ?_
  rintro m ⟨env, S⟩ ⟨seen, hnd, hls, rfl, e8, e34, s10, s34, s502, s9⟩
  simp only at e8 e34 s10 s34 s502 s9
  have hsl := Il hnd hls
  have hmt := N1 hls
  repeat' with_reducible first | refine W ?_ | refine Z0 ?_ | ((first | refine Wo fun K hK => ?_ | refine Wp ?_ | refine Wq ?_ | refine Wr ?_); (try simp only [go_sem, fN, seval, eT, iR, e8, e34, s10, s34, Dp, dT, dF, nL]); (repeat refine Ai ?_); (try (refine hK _ ?_; clear hK K)); try refine iC ?_)
  refine ⟨fun hall => ?_, fun j x c hx hj hkv => ?_⟩
  ·have hall : ∀ j, j < L.length → j ∈ seen := fun j hj => hall j (by simpa using hj)
   have hmp := Qt hnd hls hall
   have hl' : seen.length = L.length := by rw [← hmt]; exact hmp.length_eq
   refine hK _ ?_
   clear hK K
   refine Wb ?_
   refine Wa ?_
   with_reducible refine Wp ?_
   simp only [go_sem, fN, seval, true_implies, false_implies, implies_true, dT, dF, nL]
   (try with_reducible refine iC ?_)
   repeat' (with_reducible first | refine Wb ?_ | refine Wc ?_ | refine Wd ?_ | refine We ?_ | refine Wg ?_ | refine Wh ?_ | refine Wi ?_ | refine Wj ?_ | refine Wk (by decide) ?_ | refine Wl ?_ | refine Wm ?_ | refine Wn ?_)
   refine IWP.mid (fun x => x.env 8 = .one (.row 502 L.length) ∧ x.S 502 = some (O4 (BP L))) ?_ ?_
   ·have hs := Lu (met L seen) (hmp.nodup_iff.2 hnod) (fun s hs => hbL s (hmp.mem_iff.1 hs)) (by omega) (up1 502) (BY 502) (upS S) (by rw [Bt, s502]; rfl)
    have hse : BP (met L seen) = BP L := H8 fun x => hmp.mem_iff
    rw [hmt, hl', hse] at hs
    rw [hl'] at e8
    repeat' with_reducible first | refine W ?_ | refine Z0 ?_ | ((first | refine Wo fun K hK => ?_ | refine Wq ?_ | refine Wr ?_); (try simp only [go_sem, fN, seval, eT, iR, e8]); (repeat refine Ai ?_); (try (refine hK _ ?_; clear hK K)))
    refine ⟨_, _, hs, ?_⟩
    repeat' with_reducible first | refine W ?_ | refine Z0 ?_ | ((first | refine Wo fun K hK => ?_ | refine Wq ?_ | refine Wr ?_); (try simp only [go_sem, fN, seval, eT, iR, e8]); (repeat refine Ai ?_); (try (refine hK _ ?_; clear hK K)))
    refine ⟨rfl, e8, ?_⟩
    simp only [go_sem, fN, seval, eT, iR]
   rintro ⟨env, S⟩ ⟨e8, s502⟩
   simp only at e8 s502
   have hsl2 := Bx hnod
   refine IWP.ghost (Ae.share (id := 502) s502) ?_
   repeat' with_reducible first | refine W ?_ | refine Z0 ?_ | ((first | refine Wo fun K hK => ?_ | refine Wq ?_ | refine Wr ?_); (try simp only [go_sem, fN, seval, eT, iR, e8, hsl2]); (repeat refine Ai ?_); (try (refine hK _ ?_; clear hK K)))
   simp only [go_sem, fN, seval, Ab, AS.result, AI, AJ, AW, hsl2]
  ·rw [Option.map_eq_some_iff] at hx
   obtain ⟨b, hb, rfl⟩ := hx
   have hjl : j < L.length := (List.getElem?_eq_some_iff.1 hb).1
   have hcv : c = SP b := by
    have : some (SP b) = some c := hkv
    cases this
    rfl
   subst hcv
   have hnd' : (seen ++ [j]).Nodup := by
    rw [List.nodup_append]
    exact ⟨hnd, by simp, fun a ha b hb e => hj (by rw [List.mem_singleton.1 hb] at e; rw [← e]; exact ha)⟩
   have hlt' : ∀ i ∈ seen ++ [j], i < L.length := fun i hi => by
    rcases List.mem_append.1 hi with h | h
    ·exact hls i h
    ·rw [List.mem_singleton.1 h]; exact hjl
   have hsl' := Il hnd' hlt'
   rw [List.length_append, List.length_singleton] at hsl'
   refine hK _ ?_
   clear hK K
   refine Wb ?_
   repeat' with_reducible first | refine W ?_ | refine Z0 ?_ | ((first | refine Wo fun K hK => ?_ | refine Wp ?_ | refine Wq ?_ | refine Wr ?_); (try simp only [go_sem, fN, seval, eT, iR, e8, e34, s10, s34, s502, s9, Dp, List.getLast?_concat, hb, KV.sv, KV.sv1, hmt, If, Ok, dT, dF, nL]); (repeat refine Ai ?_); (try (refine hK _ ?_; clear hK K)); try refine iC ?_)
   refine AE ⟨L.length - (seen.length + 1), by omega, seen ++ [j], hnd', hlt', by rw [List.length_append, List.length_singleton], ?_⟩
   rw [QS hb]
   simp only [go_sem, fN, seval, AS.drop, AU, AC.clears, AC.clear, AC.highs, AC.high, Bool.not_false, Bool.true_and, Bool.and_self, AV.purge, AV.purges, AC.purge, AH.purge, List.contains_cons, List.contains_nil, Nat.reduceBEq, Bool.or_self, Bool.or_false, Bool.false_or, Bool.or_true, eT, iR, e8, e34, s10, s34, s502, s9]
   rw [O4, List.map_append]
   rfl

def FS : IR :=
 (.seq (.ops [.i 3 (.box 25 (.t 0)), .i 6 (.mov (.c (.one (.st (.int .u64 0)))))]) (.seq (.ops [.i 7 (.mov (.c (.one (.st (.int .u64 0)))))]) (.seq (.seq (.ops [.f 13 1 3, .l 14 13, .i 15 (.len false (.t 14)), .i 16 (.mov (.n 0))]) (.block 0 (.loop (.seq (.ops [.i 17 (.bin .lss (.t 16) (.t 15))]) (.seq (.cond (.t 17) .skip (.exit 0)) (.seq (.block 1 (.seq (.ops [.i 18 (.indexAddr 3 (.t 14) (.t 16)), .L 19 3 18, .i 9 (.alloc 46 [.st (.str (ByteArray.mk (#[]))), .full [], .st (.int .i64 0)]), .s 3 9 19]) (.seq (.seq (.ops [.f 20 0 9, .l 21 20, .m 22 1, .i 23 (.bin .neq (.t 21) (.t 22)), .m 24 23, .mk (some 25) (some (24, false)) (.fieldAddr 1 (.t 9)) .no, .mk (some 26) (some (24, false)) (.load false 1 (.t 25)) .no, .mk (some 27) (some (24, false)) (.len false (.t 26)) .no, .mk (some 28) (some (24, false)) (.mov (.t 2)) .no, .mk (some 29) (some (24, false)) (.len false (.t 28)) .no, .mk (some 30) (some (24, false)) (.bin .neq (.t 27) (.t 29)) .no, .i 31 (.pick (.t 24) (.c (.one (.st (.bool true)))) (.t 30))]) (.cond (.t 31) (.exit 1) .skip)) (.seq (.ops [.i 10 (.mov (.c (.one (.st (.bool true)))))]) (.seq (.seq (.ops [.f 32 1 9, .l 33 32, .i 34 (.len false (.t 33)), .i 35 (.mov (.n 0))]) (.block 2 (.loop (.seq (.ops [.i 36 (.bin .lss (.t 35) (.t 34))]) (.seq (.cond (.t 36) .skip (.exit 2)) (.seq (.block 3 (.seq (.ops [.m 37 35, .i 38 (.indexAddr 1 (.t 33) (.t 35)), .l 39 38, .m 11 37, .m 12 39]) (.ops [.m 40 10, .m 41 40, .mk (some 42) (some (41, true)) (.mov (.t 2)) .no, .mk (some 43) (some (41, true)) (.mov (.t 11)) .no, .mk (some 44) (some (41, true)) (.indexAddr 1 (.t 42) (.t 43)) .no, .mk (some 45) (some (41, true)) (.load false 1 (.t 44)) .no, .mk (some 46) (some (41, true)) (.mov (.t 12)) .no, .mk (some 47) (some (41, true)) (.bits .shr (.t 45) (.t 46)) .no, .mk (some 48) (some (41, true)) (.bits .and (.t 47) (.c (.one (.st (.int .u64 1))))) .no, .mk (some 49) (some (41, true)) (.bin .eql (.t 48) (.c (.one (.st (.int .u64 1))))) .no, .i 50 (.pick (.t 41) (.t 49) (.c (.one (.st (.bool false))))), .m 10 50]))) (.ops [.i 51 (.bin .add (.t 35) (.n 1)), .m 35 51]))))))) (.seq (.ops [.m 52 10]) (.cond (.t 52) (.ops [.m 53 7, .f 54 2 9, .l 55 54, .i 56 (.bits .shl (.c (.one (.st (.int .u64 1)))) (.t 55)), .i 57 (.bits .or (.t 53) (.t 56)), .m 7 57]) .skip))))))) (.ops [.i 58 (.bin .add (.t 16) (.n 1)), .m 16 58]))))))) (.seq (.ops [.m 59 7, .m 6 59]) .ret))))
theorem JD : OkF Try.prog 36 60 [90000047] FS [.t 6] := .of Try.func36 rfl rfl (by kernel_rfl) rfl
def FV : IR :=
 (.seq (.ops [.i 1 (.box 25 (.t 0)), .i 2 (.mov (.c (.one (.st (.int .u64 0)))))]) (.seq (.ops [.i 3 (.mov (.c (.one (.st (.int .u64 0)))))]) (.seq (.seq (.ops [.f 6 2 1, .l 7 6, .i 8 (.len false (.t 7)), .i 9 (.mov (.n 0))]) (.block 0 (.loop (.seq (.ops [.i 10 (.bin .lss (.t 9) (.t 8))]) (.seq (.cond (.t 10) .skip (.exit 0)) (.seq (.block 1 (.seq (.ops [.i 11 (.indexAddr 1 (.t 7) (.t 9)), .l 12 11, .m 5 12]) (.ops [.m 13 3, .m 14 5, .i 15 (.bits .shl (.c (.one (.st (.int .u64 1)))) (.t 14)), .i 16 (.bits .or (.t 13) (.t 15)), .m 3 16]))) (.ops [.i 17 (.bin .add (.t 9) (.n 1)), .m 9 17]))))))) (.seq (.ops [.m 18 3, .m 2 18]) .ret))))
theorem JL : OkF Try.prog 33 19 [] FV [.t 2] := .of Try.func33 rfl rfl (by kernel_rfl) rfl

set_option maxHeartbeats 2000000
def Hy (l : List Bool) : List SV := [.int .u64 (bN l)]
abbrev aU (l : List Bool) : AV := .one (.st (.int .u64 (bN l)))
abbrev aUs (l : List (List Bool)) : AV := .one (.st (.list (l.map Hy)))
theorem Q6 (n k : Nat) : ((n : Int)).fdiv (2 ^ k) = ((n / 2 ^ k : Nat) : Int) := by
 rw [show ((2 : Int) ^ k) = ((2 ^ k : Nat) : Int) by simp, Int.fdiv_eq_ediv_of_nonneg _ (Int.natCast_nonneg _)]
 exact (Int.natCast_ediv _ _).symm
theorem Pp (k : Nat) : (1 : Int) * 2 ^ k = ((2 ^ k : Nat) : Int) := by simp
theorem Nt {k : Nat} (h : k < 64) : inR .u64 ((2 ^ k : Nat) : Int) := by
 rw [FI]
 have h2 : 2 ^ k ≤ 2 ^ 63 := Nat.pow_le_pow_right (by omega) (by omega)
 have h3 : (2 : Nat) ^ 63 = 9223372036854775808 := by decide
 generalize 2 ^ k = p at *
 omega
theorem SA {l : List Bool} (h : l.length ≤ 64) (k : Nat) : inR .u64 ((bN l / 2 ^ k : Nat) : Int) := by
 rw [FI]
 have := Ms h
 have h2 := Nat.div_le_self (bN l) (2 ^ k)
 generalize bN l / 2 ^ k = p at *
 omega
theorem Rc : (1 : Int).toNat = 1 := rfl
theorem Ka (a : Au) (ga : a.Good) (hs64 : a.states ≤ 64) (hm : a.moves.length ≤ 100000) (n : ByteArray) (below : List (List Bool)) (hb : ∀ l ∈ below, l.length = a.states.toNat) (hbl : below.length ≤ 1000000) :
  Ap Try.prog 36 [aAu a, FO n, aUs below] (aU (a.ending n below)) := by
 have hst := ga.states
 have h0 : bN (List.replicate a.states.toNat false) = 0 := N5 _
 refine JD.ac fun C hC => ?_
 unfold FS
 repeat' with_reducible first | refine W ?_ | refine Z0 ?_ | ((first | refine Wo fun K hK => ?_ | refine Wp ?_ | refine Wq ?_ | refine Wr ?_); (try simp only [go_sem, fN, seval, eT, iR, dT, dF, nL]); (repeat refine Ai ?_); (try (refine hK _ ?_; clear hK K)); try refine iC ?_)
 refine IWP.loopD [9] (fun q s => ∃ k, k ≤ a.moves.length ∧ q = a.moves.length - k ∧ s.env 1 = FO n ∧ s.env 2 = aUs below ∧ s.env 3 = .one (.ptr 3 1 0 0) ∧ s.S 3 = some (AL a) ∧ s.env 7 = aU ((a.moves.take k).foldl (Bm n below) (List.replicate a.states.toNat false)) ∧ s.env 14 = .one (.st (.list (a.moves.map Aj))) ∧ s.env 15 = AN a.moves.length ∧ s.env 16 = AN k ∧ s.S 9 = none) a.moves.length
  ⟨0, Nat.zero_le _, rfl, rfl, rfl, rfl, rfl, by simp [AF, h0], by simp [AF], by simp [AF], rfl, rfl⟩ ?_
 rintro q ⟨env, St⟩ ⟨k, hk, rfl, e1, e2, e3, s3, e7, e14, e15, e16, s9⟩
 simp only at e1 e2 e3 s3 e7 e14 e15 e16 s9
 unfold AL at s3
 by_cases hlt : (k : Int) < a.moves.length
 ·obtain ⟨m, hmk⟩ := Ad (show k < a.moves.length by omega)
  have hmm := AR hmk
  have hto := ga.to_ m hmm
  have hfold : (a.moves.take (k + 1)).foldl (Bm n below) (List.replicate a.states.toNat false) = Bm n below ((a.moves.take k).foldl (Bm n below) (List.replicate a.states.toNat false)) m := by
   rw [Af hmk, List.foldl_append]
   rfl
  have hfl := Dd n below (a.moves.take k) (List.replicate a.states.toNat false)
  rw [List.length_replicate] at hfl
  generalize (a.moves.take k).foldl (Bm n below) (List.replicate a.states.toNat false) = L at *
  by_cases g1 : m.name = n
  case neg =>
   have hf : m.fits n below = false := by simp [Mv.fits, g1]
   repeat' with_reducible first | refine W ?_ | refine Z0 ?_ | ((first | refine Wo fun K hK => ?_ | refine Wp ?_ | refine Wq ?_ | refine Wr ?_); (try simp only [go_sem, fN, seval, eT, iR, e1, e2, e3, s3, e7, e14, e15, e16, s9, hlt, hmk, Aj, g1, dT, dF, nL]); (repeat refine Ai ?_); (try (refine hK _ ?_; clear hK K)); try refine iC ?_)
   refine AE ⟨a.moves.length - (k + 1), by omega, k + 1, by omega, rfl, ?_⟩
   simp only [go_sem, fN, seval, AS.drop, AU, AC.clears, AC.clear, AC.highs, AC.high, Bool.not_false, Bool.true_and, Bool.and_self, AV.purge, AV.purges, AC.purge, AH.purge, List.contains_cons, List.contains_nil, Nat.reduceBEq, Bool.or_self, Bool.or_false, Bool.false_or, Bool.or_true, eT, iR, e1, e2, e3, s3, e7, e14, e15, e16, s9, AL]
   simp [hfold, Bm, hf]
  case pos =>
  by_cases g2 : (m.frm.length : Int) = below.length
  case neg =>
   have hf : m.fits n below = false := by
    unfold Mv.fits
    rw [HE (by omega)]
    simp
   repeat' with_reducible first | refine W ?_ | refine Z0 ?_ | ((first | refine Wo fun K hK => ?_ | refine Wp ?_ | refine Wq ?_ | refine Wr ?_); (try simp only [go_sem, fN, seval, eT, iR, e1, e2, e3, s3, e7, e14, e15, e16, s9, hlt, hmk, Aj, g1, g2, dT, dF, nL]); (repeat refine Ai ?_); (try (refine hK _ ?_; clear hK K)); try refine iC ?_)
   refine AE ⟨a.moves.length - (k + 1), by omega, k + 1, by omega, rfl, ?_⟩
   simp only [go_sem, fN, seval, AS.drop, AU, AC.clears, AC.clear, AC.highs, AC.high, Bool.not_false, Bool.true_and, Bool.and_self, AV.purge, AV.purges, AC.purge, AH.purge, List.contains_cons, List.contains_nil, Nat.reduceBEq, Bool.or_self, Bool.or_false, Bool.false_or, Bool.or_true, eT, iR, e1, e2, e3, s3, e7, e14, e15, e16, s9, AL]
   simp [hfold, Bm, hf]
  case pos =>
  have g2' : m.frm.length = below.length := by omega
  repeat' with_reducible first | refine W ?_ | refine Z0 ?_ | ((first | refine Wo fun K hK => ?_ | refine Wp ?_ | refine Wq ?_ | refine Wr ?_); (try simp only [go_sem, fN, seval, eT, iR, e1, e2, e3, s3, e7, e14, e15, e16, s9, hlt, hmk, Aj, g1, g2, dT, dF, nL]); (repeat refine Ai ?_); (try (refine hK _ ?_; clear hK K)); try refine iC ?_)
  refine IWP.loop (fun q s => ∃ j, j ≤ below.length ∧ q = below.length - j ∧ s.env 1 = FO n ∧ s.env 2 = aUs below ∧ s.env 3 = .one (.ptr 3 1 0 0) ∧ s.S 3 = some (AL a) ∧ s.env 7 = aU L ∧ s.env 14 = .one (.st (.list (a.moves.map Aj))) ∧ s.env 15 = AN a.moves.length ∧ s.env 16 = AN k ∧ s.env 9 = .one (.ptr 9 1 0 0) ∧ s.S 9 = some (.box 46 [.st (.str m.name), .st (.list (m.frm.map Cz)), .st (.int .i64 m.to_)]) ∧ s.env 10 = As (CD (below.take j) (m.frm.take j)) ∧ s.env 33 = .one (.st (.list (m.frm.map Cz))) ∧ s.env 34 = AN below.length ∧ s.env 35 = AN j) below.length
   ⟨0, Nat.zero_le _, rfl, by simp [AF, e1], by simp [AF, e2], by simp [AF, e3], by simp [AF, AL, s3], by simp [AF, e7], by simp [AF, e14], by simp [AF, e15], by simp [AF, e16], by simp [AF], by simp [AF, g1], by simp [AF, CD], by simp [AF], by simp [AF, g2], by simp [AF]⟩ ?_
  rintro q ⟨env2, S2⟩ ⟨j, hj, rfl, f1, f2, f3, t3, f7, f14, f15, f16, f9, t9, f10, f33, f34, f35⟩
  simp only at f1 f2 f3 t3 f7 f14 f15 f16 f9 t9 f10 f33 f34 f35
  unfold AL at t3
  by_cases hjl : (j : Int) < below.length
  ·obtain ⟨bl, hbj⟩ := Ad (show j < below.length by omega)
   obtain ⟨x, hx⟩ := Ad (show j < m.frm.length by omega)
   have qx := ga.frm m hmm x (AR hx)
   have hbll := hb bl (AR hbj)
   have hst2 := Fk hbj hx
   have hsh := SA (l := bl) (by omega) x.toNat
   have hbit := SF bl x.toNat
   rw [← Ra] at hbit
   have q64 : 0 ≤ x ∧ x.toNat ≤ 64 := by omega
   generalize bl.getD x.toNat false = y at hbit hst2
   generalize CD (below.take j) (m.frm.take j) = ok at f10 hst2
   cases ok with
   | true =>
    cases y <;> simp only [Bool.toNat_true, Bool.toNat_false] at hbit
    all_goals
     repeat' with_reducible first | refine W ?_ | refine Z0 ?_ | ((first | refine Wo fun K hK => ?_ | refine Wp ?_ | refine Wq ?_ | refine Wr ?_); (try simp only [go_sem, fN, seval, eT, iR, f1, f2, f3, t3, f7, f14, f15, f16, f9, t9, f10, f33, f34, f35, hjl, hbj, hx, Hy, Q6, hsh, hbit, q64, Rc, Int.toNat_natCast, G4, IntKind.bits, dT, dF, nL]); (repeat refine Ai ?_); (try (refine hK _ ?_; clear hK K)); try refine iC ?_)
     refine AE ⟨below.length - (j + 1), by omega, j + 1, by omega, rfl, ?_⟩
     simp only [go_sem, fN, seval, eT, iR, f1, f2, f3, t3, f7, f14, f15, f16, f9, t9, f10, f33, f34, f35, AL]
     simp [hst2]
   | false =>
    repeat' with_reducible first | refine W ?_ | refine Z0 ?_ | ((first | refine Wo fun K hK => ?_ | refine Wp ?_ | refine Wq ?_ | refine Wr ?_); (try simp only [go_sem, fN, seval, eT, iR, f1, f2, f3, t3, f7, f14, f15, f16, f9, t9, f10, f33, f34, f35, hjl, hbj, hx, dT, dF, nL]); (repeat refine Ai ?_); (try (refine hK _ ?_; clear hK K)); try refine iC ?_)
    refine AE ⟨below.length - (j + 1), by omega, j + 1, by omega, rfl, ?_⟩
    simp only [go_sem, fN, seval, eT, iR, f1, f2, f3, t3, f7, f14, f15, f16, f9, t9, f10, f33, f34, f35, AL]
    simp [hst2]
  ·rw [List.take_of_length_le (l := below) (i := j) (by omega), List.take_of_length_le (l := m.frm) (i := j) (by omega)] at f10
   have hf : m.fits n below = CD below m.frm := by simp [Mv.fits, g1]
   have hor := Px (l := L) (i := m.to_.toNat) (by omega)
   have hip := Nt (k := m.to_.toNat) (by omega)
   have q64 : 0 ≤ m.to_ ∧ m.to_.toNat ≤ 64 := by omega
   by_cases g3 : CD below m.frm = true
   ·rw [g3] at f10 hf
    repeat' with_reducible first | refine W ?_ | refine Z0 ?_ | ((first | refine Wo fun K hK => ?_ | refine Wp ?_ | refine Wq ?_ | refine Wr ?_); (try simp only [go_sem, fN, seval, eT, iR, f1, f2, f3, t3, f7, f14, f15, f16, f9, t9, f10, f33, f34, f35, hjl, Pp, hip, q64, Int.toNat_natCast, G4, IntKind.bits, hor, dT, dF, nL]); (repeat refine Ai ?_); (try (refine hK _ ?_; clear hK K)); try refine iC ?_)
    refine AE ⟨a.moves.length - (k + 1), by omega, k + 1, by omega, rfl, ?_⟩
    simp only [go_sem, fN, seval, AS.drop, AU, AC.clears, AC.clear, AC.highs, AC.high, Bool.not_false, Bool.true_and, Bool.and_self, AV.purge, AV.purges, AC.purge, AH.purge, List.contains_cons, List.contains_nil, Nat.reduceBEq, Bool.or_self, Bool.or_false, Bool.false_or, Bool.or_true, eT, iR, f1, f2, f3, t3, f7, f14, f15, f16, f9, t9, f10, AL]
    simp [hfold, Bm, hf]
   ·have g3' : CD below m.frm = false := by simpa using g3
    rw [g3'] at f10 hf
    repeat' with_reducible first | refine W ?_ | refine Z0 ?_ | ((first | refine Wo fun K hK => ?_ | refine Wp ?_ | refine Wq ?_ | refine Wr ?_); (try simp only [go_sem, fN, seval, eT, iR, f1, f2, f3, t3, f7, f14, f15, f16, f9, t9, f10, f33, f34, f35, hjl, dT, dF, nL]); (repeat refine Ai ?_); (try (refine hK _ ?_; clear hK K)); try refine iC ?_)
    refine AE ⟨a.moves.length - (k + 1), by omega, k + 1, by omega, rfl, ?_⟩
    simp only [go_sem, fN, seval, AS.drop, AU, AC.clears, AC.clear, AC.highs, AC.high, Bool.not_false, Bool.true_and, Bool.and_self, AV.purge, AV.purges, AC.purge, AH.purge, List.contains_cons, List.contains_nil, Nat.reduceBEq, Bool.or_self, Bool.or_false, Bool.false_or, Bool.or_true, eT, iR, f1, f2, f3, t3, f7, f14, f15, f16, f9, t9, f10, AL]
    simp [hfold, Bm, hf]
 ·rw [List.take_of_length_le (l := a.moves) (i := k) (by omega)] at e7
  have hle : a.ending n below = a.moves.foldl (Bm n below) (List.replicate a.states.toNat false) := rfl
  rw [← hle] at e7
  repeat' with_reducible first | refine W ?_ | refine Z0 ?_ | ((first | refine Wo fun K hK => ?_ | refine Wp ?_ | refine Wq ?_ | refine Wr ?_); (try simp only [go_sem, fN, seval, eT, iR, e1, e2, e3, s3, e7, e14, e15, e16, hlt, dT, dF, nL]); (repeat refine Ai ?_); (try (refine hK _ ?_; clear hK K)); try refine iC ?_)
  simp only [go_sem, fN, seval, Ab, AS.result, AI, AJ, AW, e7]
theorem I4 (a : Au) (ga : a.Good) (hs64 : a.states ≤ 64) (hl : a.last.length ≤ 100000) : Ap Try.prog 33 [aAu a] (aU a.lastB) := by
 have hst := ga.states
 have h0 : bN (List.replicate a.states.toNat false) = 0 := N5 _
 refine JL.ac fun C hC => ?_
 unfold FV
 repeat' with_reducible first | refine W ?_ | refine Z0 ?_ | ((first | refine Wo fun K hK => ?_ | refine Wp ?_ | refine Wq ?_ | refine Wr ?_); (try simp only [go_sem, fN, seval, eT, iR, dT, dF, nL]); (repeat refine Ai ?_); (try (refine hK _ ?_; clear hK K)); try refine iC ?_)
 refine IWP.loop (fun q s => ∃ k, k ≤ a.last.length ∧ q = a.last.length - k ∧ s.env 3 = aU ((a.last.take k).foldl (fun l s => l.set s.toNat true) (List.replicate a.states.toNat false)) ∧ s.env 7 = .one (.st (.list (a.last.map Cz))) ∧ s.env 8 = AN a.last.length ∧ s.env 9 = AN k) a.last.length ⟨0, Nat.zero_le _, rfl, by simp [AF, h0], rfl, rfl, rfl⟩ ?_
 rintro q ⟨env, St⟩ ⟨k, hk, rfl, e3, e7, e8, e9⟩
 simp only at e3 e7 e8 e9
 by_cases hlt : (k : Int) < a.last.length
 ·obtain ⟨x, hx⟩ := Ad (show k < a.last.length by omega)
  have qx := ga.last x (AR hx)
  have hfold : (a.last.take (k + 1)).foldl (fun l s => l.set s.toNat true) (List.replicate a.states.toNat false) = ((a.last.take k).foldl (fun l s => l.set s.toNat true) (List.replicate a.states.toNat false)).set x.toNat true := by
   rw [Af hx, List.foldl_append]
   rfl
  have hfl := C3 (a.last.take k) (List.replicate a.states.toNat false)
  rw [List.length_replicate] at hfl
  generalize (a.last.take k).foldl (fun l s => l.set s.toNat true) (List.replicate a.states.toNat false) = L at *
  have hor := Px (l := L) (i := x.toNat) (by omega)
  have hip := Nt (k := x.toNat) (by omega)
  have q64 : 0 ≤ x ∧ x.toNat ≤ 64 := by omega
  repeat' with_reducible first | refine W ?_ | refine Z0 ?_ | ((first | refine Wo fun K hK => ?_ | refine Wp ?_ | refine Wq ?_ | refine Wr ?_); (try simp only [go_sem, fN, seval, eT, iR, e3, e7, e8, e9, hlt, hx, Pp, hip, q64, Int.toNat_natCast, G4, IntKind.bits, hor, dT, dF, nL]); (repeat refine Ai ?_); (try (refine hK _ ?_; clear hK K)); try refine iC ?_)
  refine AE ⟨a.last.length - (k + 1), by omega, k + 1, by omega, rfl, ?_⟩
  simp only [go_sem, fN, seval, eT, iR, e3, e7, e8, e9]
  simp [hfold]
 ·rw [List.take_of_length_le (l := a.last) (i := k) (by omega)] at e3
  have hle : a.lastB = a.last.foldl (fun l s => l.set s.toNat true) (List.replicate a.states.toNat false) := rfl
  rw [← hle] at e3
  repeat' with_reducible first | refine W ?_ | refine Z0 ?_ | ((first | refine Wo fun K hK => ?_ | refine Wp ?_ | refine Wq ?_ | refine Wr ?_); (try simp only [go_sem, fN, seval, eT, iR, e3, e7, e8, e9, hlt, dT, dF, nL]); (repeat refine Ai ?_); (try (refine hK _ ?_; clear hK K)); try refine iC ?_)
  simp only [go_sem, fN, seval, Ab, AS.result, AI, AJ, AW, e3]

theorem IWP.at_ {P : Program} {C : Ctx} {mu : List Nat} {x : IR} {Q : AX → AS → Prop} {env0 : Nat → AV} {S0 : AA} (M : (Nat → AV) → AA → Prop) (hM : M env0 S0) (h : ∀ env S, M env S → IWP P C mu x Q ⟨env, S⟩) : IWP P C mu x Q ⟨env0, S0⟩ := h _ _ hM
section
variable {C : Ctx} {s : AS}
end
theorem LK {S U : AA} (hU : Al U) (h : ∀ i, 1000 ≤ i → S i = U i) : C9 S = U := by
 funext i
 show (if i < 1000 then none else S i) = U i
 by_cases hi : i < 1000
 ·rw [if_pos hi, BQ hU hi]
 ·rw [if_neg hi, h i (by omega)]
theorem G_ {C : Ctx} {y : Nat} {b : AH} {N : AA → Prop} {Jx : AX → AA → Prop} {env : Nat → AV} {S : AA} (U : AA) (hU : Al (AF U y (some b))) (hy : U y = none) (hS : ∀ i, 1000 ≤ i → S i = AF U y (some b) i) (hN : N U) : K8 C y b N Jx .normal ⟨env, S⟩ :=
 ⟨⟨fun i => (env i).low, C9 S⟩, U, Ae.low (s := ⟨env, S⟩) (fun i b' hi h => by
  have h : S i = some b' := h
  rw [hS i hi] at h
  exact (hU i b' h).2), LK hU hS, by
  show Al (C9 S)
  rw [LK hU hS]
  exact hU, hy, hN⟩
theorem Ae.ownCellA {C : Ctx} {s : AS} {id r : Nat} {e e' : TypeId} {cs : List AC} (j wd : Nat) (hS : s.S id = some (.box e cs)) (hj : cs[j]? = some (.full [])) (hr : s.S r = none) (hne : id ≠ r) :
  Ae C s ((s.set r (.arow e' wd [])).set id (.box e (cs.set j (.row r 0)))) := fun a w ⟨σ, ι, R⟩ => by
 have hb := R.blk _ _ hS
 cases hb with
 | @box _ _ g vs k1 k2 k3 k4 k5 =>
  obtain ⟨v, hv, hvr⟩ := k4.get hj
  cases hvr with
  | @full p len xs hs =>
   have hl : len = 0 := by
    obtain ⟨p', cap', e1, _⟩ := Cm hs
    cases e1
    rfl
   subst hl
   obtain ⟨hu, R'⟩ := R.fresh (w' := w) hr (.arow e' wd []) ⟨p, 0, none⟩ (Ext.refl _ _) R.fit (Below.refl _ _) (by simp) (fun S' ι' hu => .afull rfl rfl (by simp) hs)
   have hS' : (s.set r (.arow e' wd [])).S id = some (.box e cs) := by simp [AS.set, AD _ hne, hS]
   have hι : AF ι r ⟨p, 0, none⟩ id = ι id := AD _ hne _
   obtain ⟨hu2, R2⟩ := R'.turn (w' := w) hS' (.box e (cs.set j (.row r 0))) (AF ι r ⟨p, 0, none⟩ id) (σ' := σ) (fun _ _ h => h) (fun _ _ _ => rfl) R.fit (by simp [AH.len]) (fun _ => ⟨rfl, rfl⟩) ⟨rfl, rfl, rfl⟩ (Nat.le_refl _) (fun _ _ _ => rfl) (fun g h => .inl h)
    (fun hu2 => by
     rw [hι] at hu2 ⊢
     refine .box k1 k2 k3 (AT.of_get (by rw [List.length_set]; exact k4.len) fun q u c hu3 hc => ?_) k5
     by_cases e2 : q = j
     ·subst e2
      rw [hv] at hu3
      cases hu3
      rw [List.getElem?_set_self (List.getElem?_eq_some_iff.1 hj).1] at hc
      cases hc
      refine .row (b := .arow e' wd []) (by simp [AS.set, AF, Ne.symm hne]) (Nat.le_refl _) rfl fun _ => ?_
      simp [AF, Ne.symm hne]
     ·rw [List.getElem?_set_ne (fun e => e2 e.symm)] at hc
      obtain ⟨u', hu', hr'⟩ := k4.get hc
      rw [hu3] at hu'
      cases hu'
      exact (hr'.mono (fun _ _ h => h) hu).mono (fun _ _ h => h) hu2)
   exact ⟨σ, _, R2⟩

end Go.Proofs.Ytkegjgodjigjfaa
