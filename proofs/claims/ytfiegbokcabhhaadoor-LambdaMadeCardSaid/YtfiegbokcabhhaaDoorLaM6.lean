/-
  Part 6 of the texts: BHand; IrBld; BBldW; AbsX; BRebase; IrLNames; BLNames; Shelf; IrComb; BComb; IrFrom; BFrom; BFrom2; IrLam; BLam. Conditions: none.
-/
import Derived.Test.YtfiegbokcabhhaaDoorLaM5
import Derived.Lib.FrozenHead2
import Derived.Lib.OthersKept
import Derived.Shelf.Strings.BuilderK
import Derived.Shelf.Strconv.Atoi
import Derived.Shelf.Strconv.AtoiErr
import Derived.Shelf.Strconv.ErrVar
import Derived.Shelf.Strconv.Itoa3
import Derived.Test.YtfiegbokcabhhaaDoorProg
namespace Go.Proofs.YtfiegbokcabhhaaDoor
open Go Go.RowKit
set_option linter.unusedVariables false
theorem acallsS_hand {P : Program} {f : FuncId} {xs : List AV} {S : AStore} {r : AV} {S' : AStore} (hS' : Clean S → Clean S')
    (h : Clean S → ∀ (C : Ctx) (σ : Sto) (ι : AHnd) (vs : List Value) (w : World), C.n = xs.length → Refs C σ ι (AS.startS xs S) { tmps := vs.toArray, defers := [] } w → All2 (VRep σ S ι) vs xs → Calls P f vs.toArray w fun e w' => ∃ v σ' ι' env', e = .returned v ∧ Refs C σ' ι' ⟨env', S'⟩ { tmps := vs.toArray, defers := [] } w' ∧ VRep σ' S' ι' v r) : ACallsS P f xs S r S' := by
  intro hclean σ w vs ι hglob hfit hown hvs
  have hl := hvs.len
  let C : Ctx := ⟨xs.length, w.heap.size, fun g => ¬ notOf S ι g, σ, w, S, ι, hclean, hglob, [], none, false⟩
  have R : Refs C σ ι (AS.startS xs S) { tmps := vs.toArray, defers := [] } w := by
    refine ⟨by simp [C, hl], fun i hi => ?_, marks_nil, hfit, hown.1, hown.2, fun id b g h hg => .inr (fun hno => hno id b h hg), fun _ _ h => h, fun _ _ _ => rfl, ⟨rfl, rfl, rfl⟩, ⟨Nat.le_refl _, Nat.le_refl _⟩, fun _ _ _ => rfl, Upd.refl _ _⟩
    show VRep σ S ι _ ((xs[i]?).getD (.tup []))
    have hi : i < xs.length := hi
    have hi2 : i < vs.length := by omega
    obtain ⟨b, hb1, hb2⟩ := hvs.get' (List.getElem?_eq_getElem hi2)
    rw [Array.getD_eq_getD_getElem?, hb1]
    simpa [hi2] using hb2
  refine (h hclean C σ ι vs w rfl R hvs).mono fun e w' ⟨v, σ', ι', env', he, R', hv⟩ => ?_
  exact ⟨v, σ', ι', he, hS' hclean, R'.upd, ⟨R'.blk, R'.inj⟩, hv, R'.fit, R'.ext, fun p h1 h2 => R'.old p h1 (fun h => h h2), R'.os, R'.grown.2, fun g h1 h2 => R'.same g h1 (fun h => h h2), fun id b g h1 h2 => R'.base id b g h1 h2⟩
theorem Ghost.ownCell {C : Ctx} {s : AS} {id r : Nat} {e e' : TypeId} {cs : List AC} (j wd : Nat) (hS : s.S id = some (.box e cs)) (hj : cs[j]? = some (.full [])) (hr : s.S r = none) (hne : id ≠ r) :
    Ghost C s ((s.set r (.mrow e' wd [])).set id (.box e (cs.set j (.row r 0)))) := fun a w ⟨σ, ι, R⟩ => by
  have hb := R.blk _ _ hS
  cases hb with
  | @box _ _ g vs k1 k2 k3 k4 k5 =>
    obtain ⟨v, hv, hvr⟩ := k4.get hj
    cases hvr with
    | @full p len xs hs =>
      have hl : len = 0 := by
        obtain ⟨p', cap', e1, _⟩ := srep_slice hs
        cases e1
        rfl
      subst hl
      obtain ⟨hu, R'⟩ := R.fresh (w' := w) hr (.mrow e' wd []) ⟨p, 0, none⟩ (Ext.refl _ _) R.fit (Below.refl _ _) (by simp) (fun S' ι' hu => .mnil rfl rfl)
      have hS' : (s.set r (.mrow e' wd [])).S id = some (.box e cs) := by simp [AS.set, updE_ne _ hne, hS]
      have hι : updE ι r ⟨p, 0, none⟩ id = ι id := updE_ne _ hne _
      have hrr : (s.set r (.mrow e' wd [])).S r = some (.mrow e' wd []) := by simp [AS.set, updE_same]
      obtain ⟨hu2, R2⟩ := R'.turn (w' := w) hS' (.box e (cs.set j (.row r 0))) (updE ι r ⟨p, 0, none⟩ id) (σ' := σ) (fun _ _ h => h) (fun _ _ _ => rfl) R.fit (by simp [ABlk.len]) (fun _ => ⟨rfl, rfl⟩) ⟨rfl, rfl, rfl⟩ (Nat.le_refl _) (fun _ _ _ => rfl) (fun g h => .inl h)
        (fun hu2 => by
          rw [hι] at hu2 ⊢
          refine .box k1 k2 k3 (All2.of_get (by rw [List.length_set]; exact k4.len) fun q u c hu3 hc => ?_) k5
          by_cases e2 : q = j
          · subst e2
            rw [hv] at hu3
            cases hu3
            rw [List.getElem?_set_self (List.getElem?_eq_some_iff.1 hj).1] at hc
            cases hc
            refine .row (b := .mrow e' wd []) (by simp [AS.set, updE, Ne.symm hne]) (Nat.le_refl _) rfl fun _ => ?_
            simp [updE, Ne.symm hne]
          · rw [List.getElem?_set_ne (fun e => e2 e.symm)] at hc
            obtain ⟨u', hu', hr'⟩ := k4.get hc
            rw [hu3] at hu'
            cases hu'
            exact (hr'.mono (fun _ _ h => h) hu).mono (fun _ _ h => h) hu2)
      exact ⟨σ, _, R2⟩

set_option maxRecDepth 100000
def ir_strings_Builder_WriteString : IR :=
  (.seq (.ops [.i 4 (.mov (.n 0)), .i 5 (.mov (.c (.one (.st (.lit .nilIface)))))]) (.seq (.ops [.m 6 0, .i 7 (.callS 50 [.t 6])]) (.seq (.ops [.m 8 0, .m 9 0, .i 10 (.nilCheck (.t 9)), .f 11 1 10, .l 12 11, .m 13 1, .i 14 (.appS 5 (.t 12) (.t 13)), .i 15 (.nilCheck (.t 8)), .f 16 1 15, .s 1 16 14]) (.seq (.ops [.m 17 1, .i 18 (.len true (.t 17)), .m 4 18, .i 5 (.mov (.c (.one (.st (.lit .nilIface)))))]) .ret))))
theorem ok_strings_Builder_WriteString : OkF Tryd.prog 46 19 [7] ir_strings_Builder_WriteString [.t 4, .t 5] := .of Tryd.func46 rfl rfl (by kernel_rfl) rfl
def ir_strings_Builder_WriteByte : IR :=
  (.seq (.ops [.i 4 (.mov (.c (.one (.st (.lit .nilIface)))))]) (.seq (.ops [.m 5 0, .i 6 (.callS 50 [.t 5])]) (.seq (.ops [.m 7 0, .m 8 0, .i 9 (.nilCheck (.t 8)), .f 10 1 9, .l 11 10, .m 12 1, .i 13 (.buildFlat [.t 12]), .i 14 (.append true 5 1 1 (.t 11) (.t 13)), .i 15 (.nilCheck (.t 7)), .f 16 1 15, .s 1 16 14]) (.seq (.ops [.i 4 (.mov (.c (.one (.st (.lit .nilIface)))))]) .ret))))
theorem ok_strings_Builder_WriteByte : OkF Tryd.prog 45 17 [6, 14] ir_strings_Builder_WriteByte [.t 4] := .of Tryd.func45 rfl rfl (by kernel_rfl) rfl

set_option linter.unusedSimpArgs false
set_option maxHeartbeats 1000000
theorem sizeBuilderW : (Tryd.prog.info? 58).map (fun i => i.size) = some 2 := by kernel_rfl
set_option maxRecDepth 100000 in
theorem copyCheck_usedW (b : Nat) (w : World) (h0 : w.cell? ⟨b, 0, none⟩ = some (.pointer (some ⟨b, 0, none⟩))) :
    Calls Tryd.prog 50 #[.pointer (some ⟨b, 0, none⟩)] w fun e w' => e = .returned (.tuple #[]) ∧ w' = w := by
  obtain ⟨j, hj, _⟩ := Option.map_eq_some_iff.1 sizeBuilderW
  go_enter Tryd.func50, Tryd.ntmps50
  go_wp2
  rw [Lib.run_neq_ptr_same w _ Tryd.underlying56 hj]
  go_wp2
  go_end0
  exact ⟨rfl, rfl⟩
set_option maxRecDepth 100000 in
theorem copyCheck_freshW (b : Nat) (w : World) (h0 : w.cell? ⟨b, 0, none⟩ = some (.pointer none)) {ty : TypeId} {n : Nat} (hsh : w.shape? b = some (ty, n)) (hn : 0 < n) (hlies : liesAt Tryd.prog (Tryd.prog).depth ty (n / (Tryd.prog).cellsOf ty) 0 58 1 = true) (hfz : w.frozen? ⟨b, 0, none⟩ = false) :
    Calls Tryd.prog 50 #[.pointer (some ⟨b, 0, none⟩)] w fun e w' => e = .returned (.tuple #[]) ∧ w' = w.setCell ⟨b, 0, none⟩ (.pointer (some ⟨b, 0, none⟩)) := by
  obtain ⟨j, hj, hjs⟩ := Option.map_eq_some_iff.1 sizeBuilderW
  go_enter Tryd.func50, Tryd.ntmps50
  go_wp2
  rw [Lib.run_to_unsafe w ⟨b, 0, none⟩ Tryd.underlying56 Tryd.underlying79 hj (by rw [hjs]; decide) hsh hn]
  simp only [Result.andThen]
  rw [Oper.upon_value]
  go_wp2
  rw [run_callFunc_extern Tryd.func54 (by kernel_rfl) (by kernel_rfl) (by kernel_rfl) (e := Extern.AbiNoEscape.same) (by kernel_rfl)]
  rw [Lib.run_noEscape]
  simp only [Result.andThen]
  rw [Oper.upon_value]
  go_wp2
  rw [Lib.run_from_unsafe w ⟨b, 0, none⟩ Tryd.underlying79 Tryd.underlying56 hj hsh hlies]
  simp only [Result.andThen]
  rw [Oper.upon_value]
  go_wp2
  go_end0
  exact ⟨rfl, rfl⟩
def FrzW (w w' : World) (g : Nat) : Prop := w'.heap.size = w.heap.size ∧ (∀ k, k ≠ g → w'.heap[k]? = w.heap[k]?) ∧ w'.os = w.os ∧ w'.tape = w.tape ∧ w'.output = w.output ∧ ∀ cs e f, w.heap[g]? = some (.cells cs e f) → ∃ f', w'.heap[g]? = some (.cells cs e f')
theorem frzW_freeze (w : World) (g n : Nat) : FrzW w (w.drew.freeze ⟨g, 0, none⟩ n) g := by
  unfold World.freeze
  split
  · exact ⟨rfl, fun _ _ => rfl, rfl, rfl, rfl, fun cs e f h => ⟨f, h⟩⟩
  · refine ⟨by simp, fun k hk => ?_, rfl, rfl, rfl, fun cs e f h => ?_⟩
    · simp only [Array.getElem?_modify]
      rw [if_neg (fun e => hk e.symm)]
      rfl
    · obtain ⟨lo, hi⟩ := f
      have h' : w.drew.heap[g]? = some (.cells cs e (lo, hi)) := h
      refine ⟨if lo == hi then (0, 0 + n) else (min lo 0, max hi (0 + n)), ?_⟩
      simp only [Array.getElem?_modify, if_true, h', Option.map_some]
set_option maxRecDepth 100000 in
theorem builderStringW_at (b g cap : Nat) (vs : Array Value) (ty : TypeId) (cur : Array Value) (l : List UInt8) (w : World) (h0 : l ≠ []) (hbk : w.heap[b]? = some (.cells vs ty (0, 0))) (hv1 : vs[1]? = some (.slice (some ⟨g, 0, none⟩) l.length cap)) (hbg : w.heap[g]? = some (.cells cur 5 (0, 0)))
    (hcm : cap ≤ maxLen) (hnc : l.length ≤ cap) (hsz : l.length ≤ cur.size) (hcur : ∀ (j : Nat) (x : UInt8), l[j]? = some x → cur[j]? = some (Value.int .u8 (x.toNat : Int))) :
    Calls Tryd.prog 31 #[.pointer (some ⟨b, 0, none⟩)] w fun e w' => e = .returned (.string ⟨l.toArray⟩) ∧ FrzW w w' g := by
  have hl0 : l.length ≠ 0 := by simpa using h0
  have c1 : w.drew.cell? ⟨b, 1, none⟩ = some (.slice (some ⟨g, 0, none⟩) l.length cap) := by
    have : w.drew.heap[b]? = some (.cells vs ty (0, 0)) := hbk
    rw [Lib.cell_of_heap this]
    exact hv1
  have hSD : (Builtin.unsafeSliceData_ #[53] 75 #[.slice (some ⟨g, 0, none⟩) l.length cap]).run Tryd.prog w.drew = .ok (.pointer (some ⟨g, 0, none⟩)) w.drew :=
    Lib.run_unsafeSliceData_row _ _ _ _ _ _ (by omega)
  have hUS : (Builtin.unsafeString_ #[75, 3] 9 #[.pointer (some ⟨g, 0, none⟩), .int .i64 l.length]).run Tryd.prog w.drew = .ok (.string ⟨l.toArray⟩) (w.drew.freeze ⟨g, 0, none⟩ l.length) := by
    refine Lib.run_unsafeString_row w.drew 75 3 9 5 Tryd.underlying75 (by kernel_rfl) g cur.size (by have hg' : w.drew.heap[g]? = some (.cells cur 5 (0, 0)) := hbg; simp [World.shape?, hg']) l h0 (by omega) (by unfold maxLen at hcm; omega) ?_
    intro j x hx
    have hg' : w.drew.heap[g]? = some (.cells cur 5 (0, 0)) := hbg
    rw [addr_add, Nat.zero_add, cell_of_row w.drew g _ _ _ _ hg']
    exact hcur j x hx
  go_enter Tryd.func31, Tryd.ntmps31
  go_wp2
  have mixed : Tryd.prog.follows Departure.mixedOrders = true := by kernel_rfl
  go_region_o
  all_goals (go_wp2; go_ret; exact ⟨rfl, frzW_freeze w g l.length⟩)
abbrev bTW : TypeId := 58
abbrev u8W : TypeId := 5
structure BldW (ty : TypeId) (ex : List AC) (S : AStore) (a0 r : Nat) (bs : ByteArray) : Prop where
  ha : 1000 ≤ a0
  hr : 1000 ≤ r
  ne : a0 ≠ r
  hex : AC.highs ex = true
  lies : liesAt Tryd.prog (Tryd.prog).depth ty ((2 + ex.length) / (Tryd.prog).cellsOf ty) 0 bTW 1 = true
  box : ∃ p, (p = .st (.lit (.pointer none)) ∨ p = .ptr a0 1 0 0) ∧ S a0 = some (.box ty (p :: .row r bs.size :: ex))
  row : S r = some (.mrow u8W 1 (byteRow bs))
def bldWS (ty : TypeId) (ex : List AC) (S : AStore) (a0 r : Nat) (bs : ByteArray) : AStore := updE (updE S a0 (some (.box ty (.ptr a0 1 0 0 :: .row r bs.size :: ex)))) r (some (.mrow u8W 1 (byteRow bs)))
theorem ptrW_val {σ : Sto} {S : AStore} {ι : AHnd} {v : Value} {a0 : Nat} {e : TypeId} {cs : List AC} (h : VRep σ S ι v (.one (.ptr a0 1 0 0))) (hS : S a0 = some (.box e cs)) : ∃ g, (ι a0).g = some g ∧ v = .pointer (some ⟨g, 0, none⟩) := by
  have h := vrep_one h
  cases h with
  | @ptr _ _ _ _ _ b h1 h2 h3 h4 =>
    rw [hS] at h1
    cases h1
    obtain ⟨g, g1, g2⟩ := h4 rfl
    exact ⟨g, g1, by rw [g2]; rfl⟩
theorem aptrW_val {σ : Sto} {S : AStore} {ι : AHnd} {v : Value} {a0 : Nat} {e : TypeId} {cs : List AC} (h : ARep σ S ι v (.ptr a0 1 0 0)) (hS : S a0 = some (.box e cs)) : ∃ g, (ι a0).g = some g ∧ v = .pointer (some ⟨g, 0, none⟩) := ptrW_val (.one h) hS
theorem list_two_more {α : Type} {l : List α} {n : Nat} (h : l.length = 2 + n) : ∃ a b m, l = a :: b :: m := by
  match l, h with
  | [], h => simp at h; omega
  | [_], h => simp at h; omega
  | a :: b :: m, _ => exact ⟨a, b, m, rfl⟩
theorem bldW_high {ty : TypeId} {ex : List AC} {a0 r n : Nat} (ha : 1000 ≤ a0) (hr : 1000 ≤ r) (hex : AC.highs ex = true) : (ABlk.box ty (.ptr a0 1 0 0 :: .row r n :: ex)).high = true := by simp only [ABlk.high, AC.highs, AC.high, decide_eq_true ha, decide_eq_true hr, hex, Bool.and_self]
theorem copyCheckW_S {ty : TypeId} {ex : List AC} {a0 r : Nat} {bs : ByteArray} {S : AStore} (h : BldW ty ex S a0 r bs) : ACallsS Tryd.prog 50 [.one (.ptr a0 1 0 0)] S (.tup []) (updE S a0 (some (.box ty (.ptr a0 1 0 0 :: .row r bs.size :: ex)))) := by
  obtain ⟨p, hp, hSa⟩ := h.box
  refine acallsS_hand (fun hc => clean_upd hc h.ha (bldW_high h.ha h.hr h.hex)) fun hclean C σ ι vs w hn R hvs => ?_
  obtain ⟨v, rfl⟩ : ∃ v, vs = [v] := by
    have := hvs.len
    match vs, this with
    | [v], _ => exact ⟨v, rfl⟩
  have hv : VRep σ S ι v (.one (.ptr a0 1 0 0)) := by cases hvs with | cons h _ => exact h
  obtain ⟨g, hg, rfl⟩ := ptrW_val hv hSa
  have hb := R.blk a0 _ hSa
  cases hb with
  | @box _ _ g' vs k1 k2 k3 k4 k5 =>
  rw [hg] at k1
  cases k1
  obtain ⟨v0, v1, vm, hvs2⟩ := list_two_more (n := ex.length) (show vs.toList.length = 2 + ex.length by rw [k4.len]; simp; omega)
  have hsz : vs.size = 2 + ex.length := by
    have := k4.len
    simp at this
    omega
  obtain rfl : vs = (v0 :: v1 :: vm).toArray := by rw [← hvs2]
  have r0 : ARep σ S ι v0 p := by cases k4 with | cons h _ => exact h
  have r1 : All2 (ARep σ S ι) (v1 :: vm) (.row r bs.size :: ex) := by cases k4 with | cons _ h => exact h
  have c0 : w.cell? ⟨g, 0, none⟩ = some v0 := by rw [Lib.cell_of_heap k3]; rfl
  have key : ∀ w', w' = w.setRow g (.pointer (some ⟨g, 0, none⟩) :: v1 :: vm).toArray → ∃ σ' ι' env', Refs C σ' ι' ⟨env', updE S a0 (some (.box ty (.ptr a0 1 0 0 :: .row r bs.size :: ex)))⟩ { tmps := #[.pointer (some ⟨g, 0, none⟩)], defers := [] } w' ∧ VRep σ' (updE S a0 (some (.box ty (.ptr a0 1 0 0 :: .row r bs.size :: ex)))) ι' (.tuple #[]) (.tup []) := fun w' hw' => by
    subst hw'
    obtain ⟨hu, R'⟩ := R.turn (w' := w.setRow g (.pointer (some ⟨g, 0, none⟩) :: v1 :: vm).toArray) hSa (.box ty (.ptr a0 1 0 0 :: .row r bs.size :: ex)) (ι a0) (σ' := σ) (fun _ _ h => h) (fun _ _ _ => rfl) (R.fit.row k5 fun k hk => setRow_other _ _ _ _ hk) (by simp [ABlk.len]) (fun _ => ⟨rfl, rfl⟩) (setRow_frame _ _) (by simp)
      (fun k hk hne => setRow_other _ _ _ _ (fun e => hne (by rw [e]; exact hg))) (fun g h => .inl h) (fun hu => .box hg k2 (setRow_heap w _ _ _ _ _ k3) (.cons (.ptr (b := .box ty (.ptr a0 1 0 0 :: .row r bs.size :: ex)) (by simp [AS.set, updE_same]) (by simp [ABlk.len]) rfl fun _ => ⟨g, by rw [updE_same]; exact hg, by simp [ABlk.wid]⟩) (r1.mono fun _ _ x => x.mono (fun _ _ h => h) hu)) k5)
    exact ⟨σ, _, _, R', .tup (fun _ => undef) rfl (by simp) (by simp)⟩
  rcases hp with rfl | rfl
  · have e0 : v0 = .pointer none := by cases r0 with | st h => cases h with | lit _ => rfl
    subst e0
    refine (copyCheck_freshW g w c0 (ty := ty) (n := 2 + ex.length) (by simp [World.shape?, k3]; simpa using hsz) (by omega) h.lies (Lib.frozen_of_heap k3 0)).mono ?_
    rintro e w' ⟨rfl, rfl⟩
    obtain ⟨σ', ι', env', R', hv'⟩ := key _ (setCell_eq_setRow w g 0 _ _ _ _ k3)
    exact ⟨_, σ', ι', env', rfl, R', hv'⟩
  · obtain ⟨g2, hg2, e0⟩ := aptrW_val r0 hSa
    rw [hg] at hg2
    cases hg2
    subst e0
    refine (copyCheck_usedW g w c0).mono ?_
    rintro e w' ⟨rfl, rfl⟩
    obtain ⟨σ', ι', env', R', hv'⟩ := key _ (setRow_self w' g _ _ _ k3).symm
    exact ⟨_, σ', ι', env', rfl, R', hv'⟩
theorem byteRowW_app (a b : ByteArray) : byteRow (a ++ b) = byteRow a ++ byteRow b := by unfold byteRow; simp
theorem rens_len (ρ : Nat → Nat) (ex : List AC) : (AC.rens ρ ex).length = ex.length := by rw [AC.rens_eq, List.length_map]
theorem bldW_up {ty : TypeId} {ex : List AC} {a0 r : Nat} {bs : ByteArray} {S : AStore} (h : BldW ty ex S a0 r bs) : BldW ty (AC.rens up1 ex) (upS S) (up1 a0) (up1 r) bs := by
  obtain ⟨p, hp, hSa⟩ := h.box
  refine ⟨up1_le _, up1_le _, fun e => h.ne (Nat.add_right_cancel e), ?_, by rw [rens_len]; exact h.lies, ?_, by rw [upS_some h.row]; rfl⟩
  · have := AC.rens_high ex
    exact this
  rcases hp with rfl | rfl
  · exact ⟨_, .inl rfl, by rw [upS_some hSa]; rfl⟩
  · exact ⟨_, .inr rfl, by rw [upS_some hSa]; rfl⟩
theorem rens_dn (ex : List AC) : AC.rens dn1 (AC.rens up1 ex) = ex := AC.rens_rens up1 dn1 dn_up ex
theorem writeStringW_S {ty : TypeId} {ex : List AC} {a0 r : Nat} {bs : ByteArray} {S : AStore} (h : BldW ty ex S a0 r bs) (s : ByteArray) (hz : bs.size + s.size ≤ 140737488355328) : ACallsS Tryd.prog 46 [.one (.ptr a0 1 0 0), aStr s] S (.tup [aInt s.size, .one (.st (.lit .nilIface))]) (bldWS ty ex S a0 r (bs ++ s)) := by
  obtain ⟨p, hp, hSa⟩ := h.box
  have hSr := h.row
  have ha := h.ha
  have hr := h.hr
  have hne := h.ne
  have hne2 : ¬ r = a0 := fun e => hne e.symm
  have hbl := byteRow_len bs
  refine ok_strings_Builder_WriteString.acS fun hS C hC => ?_
  unfold ir_strings_Builder_WriteString
  repeat' (first | (with_reducible first | refine W ?_ | refine Wz0 ?_) | ((with_reducible first | refine Wo (fun K hK => ?_) | refine Wp ?_ | refine Wq ?_ | refine Wr ?_); (try simp only [go_sem, fN, seval, eT, iR, hSa, dT, dF, nL]); (repeat with_reducible refine Ai ?_); (try (refine hK _ ?_; clear hK K)); (try with_reducible refine iC ?_)))
  refine ⟨_, _, copyCheckW_S (bldW_up h), ?_⟩
  repeat' (first | (with_reducible first | refine W ?_ | refine Wz0 ?_) | ((with_reducible first | refine Wo (fun K hK => ?_) | refine Wp ?_ | refine Wq ?_ | refine Wr ?_); (try simp only [go_sem, fN, seval, eT, iR, hSa, hSr, hne, hne2, hbl, rens_dn, dT, dF, nL]); (repeat with_reducible refine Ai ?_); (try (refine hK _ ?_; clear hK K)); (try with_reducible refine iC ?_)))
  refine finS_two (.tup [aInt s.size, .one (.st (.lit .nilIface))]) hS ha hr hne2 (bldW_high ha hr h.hex) rfl trivial ?_ ?_ ?_ ?_ fun i hi i1 i2 => ?_
  · simp only [go_sem, fN, seval, eT, iR, resAll, resOne, tupV]
  · simp only [go_sem, fN, seval, eT, iR]
    try rfl
  · simp only [go_sem, fN, seval, eT, iR, hne, hne2]
    try (rw [ByteArray.size_append])
  · simp only [go_sem, fN, seval, eT, iR, hne, hne2, byteRowW_app]
  · simp only [go_sem, fN, seval, eT, iR, i1, i2]
theorem byteRowW_one (c : UInt8) : byteRow ⟨#[c]⟩ = [[.int .u8 (c.toNat : Int)]] := rfl
theorem writeByteW_S {ty : TypeId} {ex : List AC} {a0 r : Nat} {bs : ByteArray} {S : AStore} (h : BldW ty ex S a0 r bs) (c : UInt8) (hz : bs.size + 1 ≤ 140737488355328) : ACallsS Tryd.prog 45 [.one (.ptr a0 1 0 0), .one (.st (.int .u8 (c.toNat : Int)))] S (.one (.st (.lit .nilIface))) (bldWS ty ex S a0 r (bs ++ ⟨#[c]⟩)) := by
  obtain ⟨p, hp, hSa⟩ := h.box
  have hSr := h.row
  have ha := h.ha
  have hr := h.hr
  have hne := h.ne
  have hne2 : ¬ r = a0 := fun e => hne e.symm
  have hbl := byteRow_len bs
  have hsz : (bs ++ ⟨#[c]⟩).size = bs.size + 1 := by rw [ByteArray.size_append]; rfl
  refine ok_strings_Builder_WriteByte.acS fun hS C hC => ?_
  unfold ir_strings_Builder_WriteByte
  repeat' (first | (with_reducible first | refine W ?_ | refine Wz0 ?_) | ((with_reducible first | refine Wo (fun K hK => ?_) | refine Wp ?_ | refine Wq ?_ | refine Wr ?_); (try simp only [go_sem, fN, seval, eT, iR, hSa, dT, dF, nL]); (repeat with_reducible refine Ai ?_); (try (refine hK _ ?_; clear hK K)); (try with_reducible refine iC ?_)))
  refine ⟨_, _, copyCheckW_S (bldW_up h), ?_⟩
  have h63 : bs.size + 1 ≤ maxLen := by rw [maxLen_eq]; omega
  repeat' (first | (with_reducible first | refine W ?_ | refine Wz0 ?_) | ((with_reducible first | refine Wo (fun K hK => ?_) | refine Wp ?_ | refine Wq ?_ | refine Wr ?_); (try simp only [go_sem, fN, seval, eT, iR, hSa, hSr, hne, hne2, hbl, h63, rens_dn, dT, dF, nL]); (repeat with_reducible refine Ai ?_); (try (refine hK _ ?_; clear hK K)); (try with_reducible refine iC ?_)))
  refine finS_two (.one (.st (.lit .nilIface))) hS ha hr hne2 (bldW_high ha hr h.hex) rfl trivial ?_ ?_ ?_ ?_ fun i hi i1 i2 => ?_
  · simp only [go_sem, fN, seval, eT, iR, resAll, resOne, tupV]
  · simp only [go_sem, fN, seval, eT, iR]
    try rfl
  · simp only [go_sem, fN, seval, eT, iR, hne, hne2, hbl, hsz]
  · simp only [go_sem, fN, seval, eT, iR, hne, hne2, byteRowW_app, byteRowW_one]
  · simp only [go_sem, fN, seval, eT, iR, i1, i2]
theorem builderStringW_S {ty : TypeId} {ex : List AC} {a0 r : Nat} {bs : ByteArray} {S : AStore} (h : BldW ty ex S a0 r bs) (h0 : 0 < bs.size) (hmx : bs.size ≤ 140737488355328) : ACallsS Tryd.prog 31 [.one (.ptr a0 1 0 0)] S (aStr bs) (updE S r (some (.dead bs.size 1))) := by
  obtain ⟨p, hp, hSa⟩ := h.box
  refine acallsS_hand (fun hc => clean_upd hc h.hr rfl) fun hclean C σ ι vs w hn R hvs => ?_
  obtain ⟨v, rfl⟩ : ∃ v, vs = [v] := by
    have := hvs.len
    match vs, this with
    | [v], _ => exact ⟨v, rfl⟩
  have hv : VRep σ S ι v (.one (.ptr a0 1 0 0)) := by cases hvs with | cons h _ => exact h
  obtain ⟨g, hg, rfl⟩ := ptrW_val hv hSa
  have hb := R.blk a0 _ hSa
  have hbr := R.blk r _ h.row
  have hlen : (byteRow bs).length = bs.size := byteRow_len bs
  cases hb with
  | @box _ _ g' vs k1 k2 k3 k4 k5 =>
  rw [hg] at k1
  cases k1
  obtain ⟨v0, v1, vm, hvs2⟩ := list_two_more (n := ex.length) (show vs.toList.length = 2 + ex.length by rw [k4.len]; simp; omega)
  obtain rfl : vs = (v0 :: v1 :: vm).toArray := by rw [← hvs2]
  have r1 : ARep σ S ι v1 (.row r bs.size) := by cases k4 with | cons _ h => cases h with | cons h _ => exact h
  generalize hrow : byteRow bs = row at hbr hlen
  cases hbr with
  | mnil m1 m2 => simp at hlen; omega
  | @mrow _ _ _ gr cur m1 m2 m3 m4 m5 m6 m7 m8 m9 =>
  subst hrow
  have e1 : v1 = .slice (some ⟨gr, 0, none⟩) bs.size (ι r).cap := by
    cases r1 with
    | row q1 q2 q3 q4 =>
      rw [h.row] at q1
      cases q1
      rw [q4 hlen.symm, m2]
  subst e1
  have hl : bs.data.toList.length = bs.size := by rw [Array.length_toList]; rfl
  refine (builderStringW_at g gr (ι r).cap _ ty cur bs.data.toList w (fun e => by rw [e] at hl; simp at hl; omega) k3 (by rw [hl]; rfl) m3 m5 (by omega) (by rw [m6, hl]; omega) fun j x hx => ?_).mono ?_
  · have hx' : (byteRow bs)[j]? = some [SV.int .u8 (x.toNat : Int)] := by
      unfold byteRow
      rw [List.getElem?_map, hx]
      rfl
    obtain ⟨u, u1, u2⟩ := m8 j _ 0 _ hx' rfl
    rw [Nat.mul_one, Nat.add_zero] at u1
    rw [u1]
    cases u2
    rfl
  · rintro e w' ⟨rfl, f1, f2, f3, f4, f5, f6⟩
    obtain ⟨hu, R'⟩ := R.turn (w' := w') h.row (.dead bs.size 1) (ι r) (σ' := σ) (fun _ _ h => h) (fun _ _ _ => rfl) (R.fit.row m9 f2) (by simp [ABlk.len, hlen]) (fun _ => ⟨rfl, rfl⟩) ⟨f3, f4, f5⟩ (by omega)
      (fun k hk hne => f2 k (fun e => hne (by rw [e]; exact m1))) (fun g h => .inl h) (fun hu => .dead fun g hg => by
        rw [m1] at hg
        cases hg
        obtain ⟨f', h'⟩ := f6 _ _ _ m3
        exact ⟨_, h', rfl⟩)
    refine ⟨_, σ, _, _, rfl, R', .one (.st (.str ?_))⟩
    show bs.size ≤ maxLen
    rw [maxLen_eq]
    omega

def AIter (P : Program) (f : FuncId) (caps : List AV) (Need : AStore → Prop) {α : Type} (encs : α → List AV) (all : List α) : Prop :=
  ∀ (y : Nat) (Inv : List α → AStore → Prop) (Jx : AStore → Prop) (T : AStore), 1000 ≤ y → (∀ pre T, Inv pre T → Need T) →
    (∀ pre v, (pre ++ [v]) <+: all → ∀ T, Inv pre T → AYields P (.one (.yld y)) (encs v) T fun r T' => (r = .one (.st (.bool true)) ∧ Inv (pre ++ [v]) T') ∨ (r = .one (.st (.bool false)) ∧ Jx T')) →
    Inv [] T → ACallsR P f (.one (.yld y) :: caps) T fun _ T' => Inv all T' ∨ Jx T'
def setPs (env : Nat → AV) : List Nat → List AV → Nat → AV
  | p :: ps, v :: vs => setPs (updE env p v) ps vs
  | _, _ => env
section
variable {σ : Sto} {S : AStore} {ι : AHnd}
theorem setPs_rep {n : Nat} : ∀ {ps : List Nat} {vs : List Value} {xs : List AV} {tmps : Array Value} {env : Nat → AV}, All2 (VRep σ S ι) vs xs → n ≤ tmps.size → (∀ i, i < n → VRep σ S ι (tmps.getD i undef) (env i)) →
    n ≤ ((ps.zip vs).foldl (fun t (p, v) => t.setIfInBounds p v) tmps).size ∧ ∀ i, i < n → VRep σ S ι (((ps.zip vs).foldl (fun t (p, v) => t.setIfInBounds p v) tmps).getD i undef) (setPs env ps xs i)
  | [], vs, xs, tmps, env, h, hs, he => ⟨hs, he⟩
  | p :: ps, [], [], tmps, env, h, hs, he => ⟨hs, he⟩
  | p :: ps, v :: vs, x :: xs, tmps, env, h, hs, he => by
    cases h with
    | cons h1 h2 =>
      refine setPs_rep (ps := ps) h2 (by simpa using hs) fun i hi => ?_
      unfold updE
      by_cases e : i = p
      · subst e
        rw [if_pos rfl, Array.getD_eq_getD_getElem?, Array.getElem?_setIfInBounds_self_of_lt (by omega)]
        exact h1
      · rw [if_neg e, Array.getD_eq_getD_getElem?, Array.getElem?_setIfInBounds_ne (fun h => e h.symm), ← Array.getD_eq_getD_getElem?]
        exact he i hi
end
section
variable {P : Program} {C : Ctx} {mu : List Nat} {Q : AX → AS → Prop} {s : AS} {x y : IR} {σ : Sto} {ι : AHnd} {a : Act} {w : World}
theorem Refs.upped (R : Refs C σ ι s a w) : ∃ ι1 : AHnd, (∀ i, ι1 (up1 i) = ι i) ∧ Owned σ (upS s.S) ι1 w ∧ (∀ v c, VRep σ s.S ι v c → VRep σ (upS s.S) ι1 v (c.ren up1)) ∧
    ∀ {Post : AV → AStore → Prop} {e : Ending} {w' : World}, EndS σ (upS s.S) ι1 w Post e w' → ∃ v r S' σ' ι2, e = .returned v ∧ Post r S' ∧ Clean S' ∧ Upd s.S ι (dnS S') ι2 ∧ Refs C σ' ι2 ⟨s.env, dnS S'⟩ a w' := by
  have hup : ∀ i, dn1 (up1 i) = i := dn_up
  have hS : ∀ i b, s.S i = some b → upS s.S (up1 i) = some (b.ren up1) := fun i b hb => upS_some hb
  obtain ⟨ι1, hι1⟩ : ∃ ι1 : AHnd, ∀ i, ι1 i = ι (dn1 i) := ⟨fun i => ι (dn1 i), fun _ => rfl⟩
  have hι : ∀ i b, s.S i = some b → ι1 (up1 i) = ι i := fun i b _ => by rw [hι1, hup]
  have hown : Owned σ (upS s.S) ι1 w := by
    refine ⟨fun id b hb => ?_, fun id id' b b' g h1 h2 g1 g2 => ?_⟩
    · obtain ⟨hle, b', h1, rfl⟩ := upS_inv hb
      have := BRep.ren (S2 := upS s.S) (ι2 := ι1) (ρ := up1) hS hι (R.blk _ _ h1)
      rw [hι1]
      exact this
    · obtain ⟨l1, c1, k1, _⟩ := upS_inv h1
      obtain ⟨l2, c2, k2, _⟩ := upS_inv h2
      rw [hι1] at g1 g2
      have := R.inj _ _ _ _ g k1 k2 g1 g2
      rw [← up_dn l1, ← up_dn l2, this]
  refine ⟨ι1, fun i => by rw [hι1, hup], hown, fun v c hv => VRep.ren (S2 := upS s.S) (ι2 := ι1) (ρ := up1) hS hι hv, fun {Post e w'} he => ?_⟩
  obtain ⟨v, r, S', σ', ι', rfl, hP, hclean, hupd, hown', hv, hf', hkeep, hold, hos, hsz, hsame, hbase⟩ := he
  have hSd : ∀ i b, S' i = some b → dnS S' (dn1 i) = some (b.ren dn1) := fun i b hb => dnS_some (hclean i b hb).1 hb
  obtain ⟨ι2, hι2⟩ : ∃ ι2 : AHnd, ∀ i, ι2 i = ι' (up1 i) := ⟨fun i => ι' (up1 i), fun _ => rfl⟩
  have hιd : ∀ i b, S' i = some b → ι2 (dn1 i) = ι' i := fun i b hb => by
    rw [hι2, up_dn (hclean i b hb).1]
  have hu : Upd s.S ι (dnS S') ι2 := fun id b hb => by
    obtain ⟨b', h1, h2, h3⟩ := hupd _ _ (hS id b hb)
    have h4 := hSd _ _ h1
    rw [hup] at h4
    refine ⟨_, h4, by rw [ren_len] at h2 ⊢; exact h2, fun hl => ?_⟩
    rw [ren_len] at hl
    obtain ⟨q1, q2⟩ := h3 (by rw [ren_len]; exact hl)
    refine ⟨by rw [ren_wid] at q1 ⊢; exact q1, ?_⟩
    rw [hι2, q2, hι1, hup]
  have hnot : ∀ g, g < C.N → ¬ C.G g → notOf (upS s.S) ι1 g := fun g h1 h2 id b hb hg => by
    obtain ⟨_, b', k1, _⟩ := upS_inv hb
    rw [hι1] at hg
    rcases R.base _ _ g k1 hg with h | h
    · omega
    · exact h2 h
  refine ⟨v, r, S', σ', ι2, rfl, hP, hclean, hu, ?_⟩
  refine ⟨R.size, fun i hi => (R.env i hi).mono hkeep hu, R.nod.mono (fun D h => (hsame D (Array.getElem?_eq_some_iff.1 h).1 (notOf_mark hown.1 h)).trans h), hf', fun id b hb => ?_, fun id id' b b' g h1 h2 g1 g2 => ?_, fun id b g hb hg => ?_, fun p x hx => hkeep _ _ (R.ext p x hx), fun p h1 h2 => ?_, ⟨hos.1.trans R.os.1, hos.2.1.trans R.os.2.1, hos.2.2.trans R.os.2.2⟩, ⟨Nat.le_trans R.grown.1 hsz, Nat.le_trans R.grown.2 hsz⟩, fun g h1 h2 => ?_, R.upd.trans hu⟩
  · obtain ⟨b', h1, rfl⟩ := dnS_inv hb
    have := BRep.ren (S2 := dnS S') (ι2 := ι2) (ρ := dn1) hSd hιd (hown'.1 _ _ h1)
    rw [hι2]
    exact this
  · obtain ⟨c1, k1, _⟩ := dnS_inv h1
    obtain ⟨c2, k2, _⟩ := dnS_inv h2
    rw [hι2] at g1 g2
    have := congrArg dn1 (hown'.2 _ _ _ _ g k1 k2 g1 g2)
    rw [hup, hup] at this
    exact this
  · obtain ⟨b', h1, _⟩ := dnS_inv hb
    rw [hι2] at hg
    rcases hbase _ _ g h1 hg with h2 | h2
    · exact .inl (by have := R.grown.1; omega)
    · by_cases hN : g < C.N
      · by_cases hG : C.G g
        · exact .inr hG
        · exact absurd (hnot g hN hG) h2
      · exact .inl (by omega)
  · exact (hold p (by have := R.grown.1; omega) (hnot _ h1 h2)).trans (R.old p h1 h2)
  · exact (hsame g (by have := R.grown.1; omega) (hnot g h1 h2)).trans (R.same g h1 h2)
theorem Refs.setLoop (R : Refs C σ ι s a w) {id l : Nat} {env : List AV} {r : Loop} (r' : Loop) (hS : s.S id = some (.loop env r)) (hl : (ι id).g = some l) (hr : r'.tmps = r.tmps) : w.heap[l]? = some (.loop r) ∧ ∃ ι', Refs C σ ι' (s.set id (.loop env r')) a (w.putObj l (.loop r')) ∧ Upd s.S ι (s.set id (.loop env r')).S ι' := by
  have hb := R.blk id _ hS
  cases hb with
  | loop h1 h2 h3 h4 h5 =>
    rw [hl] at h1
    cases h1
    exact ⟨h2, R.setBlk (o' := .loop r') hS hl h2 h5 rfl rfl fun S' ι' hu => .loop hl (set_heap h2).1 (by rw [hr]; exact h3) (fun j a ha => by rw [hr]; exact (h4 j a ha).mono (fun _ _ h => h) hu) h5⟩
def RoundQ (C : Ctx) (y : Nat) (b : ABlk) (N : AStore → Prop) (Jx : AX → AStore → Prop) (e : AX) (s : AS) : Prop := ∃ s2 U, Ghost C s s2 ∧ s2.S = updE U y (some b) ∧ Clean s2.S ∧ U y = none ∧ match e with
  | .normal => N U
  | .ret => Jx .ret U
  | .exit i => Jx (.exit i) U
  | .pan _ => False
theorem finish_round {C : Ctx} {σ0 : Sto} {T : AStore} {ι0 : AHnd} {w0 : World} (hC : C.N = w0.heap.size) (hw : C.w0 = w0) (hσ : C.σ0 = σ0) (hG : ∀ g, C.G g ↔ ¬ notOf T ι0 g) (hS0 : C.S0 = T) (hι0 : C.ι0 = ι0) (R : Refs C σ ι s a w) (hc : Clean s.S) {Post : AV → AStore → Prop} {b : Bool} (hP : Post (.one (.st (.bool b))) s.S) : EndS σ0 T ι0 w0 Post (.returned (.bool b)) w := by
  have hupd := R.upd
  rw [hS0, hι0] at hupd
  subst hσ hw
  exact ⟨.bool b, _, s.S, σ, ι, rfl, hP, hc, hupd, ⟨R.blk, R.inj⟩, .one (.st .bool), R.fit, R.ext, fun p h1 h2 => R.old p (by rw [hC]; exact h1) (fun h => (hG _).1 h h2), R.os, R.grown.2, fun g h1 h2 => R.same g (by rw [hC]; exact h1) (fun h => (hG _).1 h h2), fun id b g h1 h2 => (R.base id b g h1 h2).imp (fun h => by rw [← hC]; exact h) fun h => (hG _).1 h⟩
theorem updE_over {S : AStore} {i : Nat} {b c : Option ABlk} : updE (updE S i b) i c = updE S i c := by
  funext j
  unfold updE
  split <;> rfl
inductive Jump : Code → AX → Prop
  | ret : Jump .ret .ret
  | exit (i : Nat) : Jump (.exit i) (.exit i)
theorem round_at {fn : FuncId} {ps : Array Tmp} {ca cb : Code} {D : Nat} {n : Nat} {env : List AV} {tmps : Array Value} (hx : trCode P n mu ca = some x) (hy : trCode P n mu cb = some y) (hn : env.length = n) {yb : Nat} (hyb : 1000 ≤ yb) {rec : LoopState → Option Code → Loop} (hrec : rec = fun st pe => { state := st, pending := pe, fn, tmps, params := ps, assign := ca, body := cb, defers := D }) {vs : List AV} (hps : vs.length = ps.size)
    {U : AStore} (hU : U yb = none) {N : AStore → Prop} {Jx : AX → AStore → Prop}
    (h : Clean (updE U yb (some (.loop env (rec .ready none)))) → ∀ C' : Ctx, C'.n = n → IWP P C' mu x (AX.then (fun s1 => s1.S yb = some (.loop env (rec .ready none)) ∧ IWP P C' mu y (RoundQ C' yb (.loop env (rec .busy none)) N Jx) (s1.set yb (.loop env (rec .busy none)))) fun _ _ => False) ⟨setPs (fun i => (env[i]?).getD .any) ps.toList vs, updE U yb (some (.loop env (rec .ready none)))⟩) :
    AYields P (.one (.yld yb)) vs (updE U yb (some (.loop env (rec .ready none)))) fun r T' => (r = .one (.st (.bool true)) ∧ ∃ U', T' = updE U' yb (some (.loop env (rec .ready none))) ∧ U' yb = none ∧ N U') ∨
      (r = .one (.st (.bool false)) ∧ ∃ U' c e, T' = updE U' yb (some (.loop env (rec .done (some c)))) ∧ U' yb = none ∧ Jump c e ∧ Jx e U') := by
  intro hclean σ w vy xs ι hglob hfit hown hvy hxs
  obtain ⟨T, hT⟩ : ∃ T, updE U yb (some (.loop env (rec .ready none))) = T := ⟨_, rfl⟩
  have hTy : T yb = some (.loop env (rec .ready none)) := by rw [← hT]; exact updE_same _ _ _
  rw [hT] at hclean hown hvy hxs h ⊢
  have hhigh := (hclean _ _ hTy).2
  have hb := hown.1 _ _ hTy
  obtain ⟨l, hl, rfl⟩ : ∃ l, (ι yb).g = some l ∧ vy = .func (.yield l) #[] #[] := by
    cases hvy with
    | one hv =>
      cases hv with
      | yld k1 k2 k3 k4 =>
        rw [hTy] at k1
        cases k1
        exact k4 rfl
  have hlen := hxs.len
  cases hb with
  | loop k1 k2 k3 k4 k5 =>
  rw [hl] at k1
  cases k1
  have htm : (rec .ready none).tmps = tmps := by rw [hrec]
  refine ⟨l, rfl, fun ro => ⟨fn, _, ca, cb, by
    have := run_yield (P := P) (args := xs.toArray) k2 (by rw [hrec]; simp; omega)
    rw [hrec] at this
    exact this, ?_⟩⟩
  let C' : Ctx := ⟨n, w.heap.size, fun g => ¬ notOf T ι g, σ, w, T, ι, hclean, hglob, [], some l, false⟩
  have hset := setPs_rep (σ := σ) (S := T) (ι := ι) (n := n) (ps := ps.toList) (env := fun i => (env[i]?).getD .any) (tmps := tmps) hxs (by rw [htm] at k3; omega) fun i hi => by
    have hi' : i < env.length := by omega
    have := k4 i _ (List.getElem?_eq_getElem hi')
    rw [htm] at this
    simpa [hi'] using this
  have hfold : (ps.zip xs.toArray).foldl (fun t (p, v) => t.setIfInBounds p v) tmps = (ps.toList.zip xs).foldl (fun t (p, v) => t.setIfInBounds p v) tmps := by
    rw [← Array.foldl_toList, Array.toList_zip]
  have R0 : Refs C' σ ι ⟨setPs (fun i => (env[i]?).getD .any) ps.toList vs, T⟩ { tmps := (ps.zip xs.toArray).foldl (fun t (p, v) => t.setIfInBounds p v) tmps, defers := [] } w := by
    refine ⟨?_, fun i hi => ?_, marks_nil, hfit, hown.1, hown.2, fun id b g h hg => .inr (fun hno => hno id b h hg), fun _ _ h => h, fun _ _ _ => rfl, ⟨rfl, rfl, rfl⟩, ⟨Nat.le_refl _, Nat.le_refl _⟩, fun _ _ _ => rfl, Upd.refl _ _⟩
    · dsimp only
      rw [hfold]
      exact hset.1
    · dsimp only
      rw [hfold]
      exact hset.2 i hi
  refine roundIn_of_wpIn (F := fen ro) (n := 0) trivial (wpIn_mono (h hclean C' rfl ca hx _ w ⟨σ, ι, R0⟩) fun e a1 w1 he => ?_)
  have same : ∀ {σ1 : Sto} {ι1 : AHnd} {s1 : AS} {a1 : Act} {w1 : World} {b : ABlk}, Refs C' σ1 ι1 s1 a1 w1 → s1.S yb = some b → b.len = 1 → (ι1 yb).g = some l := fun R1 hs hl1 => by
    obtain ⟨b', h1, h2, h3⟩ := R1.upd yb _ hTy
    rw [hs] at h1
    cases h1
    rw [(h3 hl1).2]
    exact hl
  cases e with
  | normal =>
    obtain ⟨s1, ⟨h1, h2⟩, σ1, ι1, R1⟩ := he
    obtain ⟨q1, ι2, R2, _⟩ := R1.setLoop (rec .busy none) h1 (same R1 h1 rfl) (by rw [hrec])
    refine ⟨_, by
      have := run_beginRound (P := P) q1 (by rw [hrec])
      rw [hrec] at this
      exact this, ?_⟩
    have e1 : (w1.putObj l (.loop (rec .busy none))) = w1.putObj l (.loop { state := .busy, pending := none, fn, tmps, params := ps, assign := ca, body := cb, defers := D }) := by rw [hrec]
    rw [← e1]
    refine wpIn_mono (h2 cb hy _ _ ⟨σ1, ι2, R2⟩) fun e3 a3 w3 he3 => ?_
    have fin : ∀ (jump : Option Code) (s3 s4 : AS) (U2 : AStore), Ghost C' s3 s4 → s4.S = updE U2 yb (some (.loop env (rec .busy none))) → Clean s4.S → Holds C' s3 a3 w3 →
        ∃ σ5 ι5 s5, (Instr.endRound l jump).run P w3 = .ok (.bool jump.isNone) (w3.putObj l (.loop (rec (if jump.isNone then .ready else .done) jump))) ∧ s5.S = updE U2 yb (some (.loop env (rec (if jump.isNone then .ready else .done) jump))) ∧ Clean s5.S ∧ Refs C' σ5 ι5 s5 a3 (w3.putObj l (.loop (rec (if jump.isNone then .ready else .done) jump))) := fun jump s3 s4 U2 hg hS hc hH => by
      obtain ⟨σ4, ι4, R4⟩ := hg _ _ hH
      have h4 : s4.S yb = some (.loop env (rec .busy none)) := by rw [hS]; exact updE_same _ _ _
      obtain ⟨q2, ι5, R5, _⟩ := R4.setLoop (rec (if jump.isNone then .ready else .done) jump) h4 (same R4 h4 rfl) (by rw [hrec])
      refine ⟨σ4, ι5, _, ?_, ?_, ?_, R5⟩
      · have := run_endRound (P := P) jump q2
        rw [hrec] at this ⊢
        exact this
      · show updE s4.S yb _ = _
        rw [hS, updE_over]
      · exact clean_upd hc hyb hhigh
    cases e3 with
    | normal =>
      obtain ⟨s3, ⟨s4, U2, g1, g2, g3, g4, g5⟩, hH⟩ := he3
      obtain ⟨σ5, ι5, s5, f1, f2, f3, R5⟩ := fin none s3 s4 U2 g1 g2 g3 hH
      exact ⟨_, _, f1, finish_round (C := C') rfl rfl rfl (fun g => Iff.rfl) rfl rfl R5 f3 (.inl ⟨rfl, U2, f2, g4, g5⟩)⟩
    | ret =>
      obtain ⟨s3, ⟨s4, U2, g1, g2, g3, g4, g5⟩, hH⟩ := he3
      obtain ⟨σ5, ι5, s5, f1, f2, f3, R5⟩ := fin (some .ret) s3 s4 U2 g1 g2 g3 hH
      exact ⟨_, _, f1, finish_round (C := C') rfl rfl rfl (fun g => Iff.rfl) rfl rfl R5 f3 (.inr ⟨rfl, U2, _, _, f2, g4, .ret, g5⟩)⟩
    | exit i =>
      obtain ⟨s3, ⟨s4, U2, g1, g2, g3, g4, g5⟩, hH⟩ := he3
      obtain ⟨σ5, ι5, s5, f1, f2, f3, R5⟩ := fin (some (.exit i)) s3 s4 U2 g1 g2 g3 hH
      exact ⟨_, _, f1, finish_round (C := C') rfl rfl rfl (fun g => Iff.rfl) rfl rfl R5 f3 (.inr ⟨rfl, U2, _, _, f2, g4, .exit i, g5⟩)⟩
    | panic ch => obtain ⟨s3, v, ⟨⟨s4, U2, g1, g2, g3, g4, g5⟩, _⟩, _⟩ := he3; exact g5.elim
    | _ => exact he3.elim
  | panic ch => obtain ⟨s1, v, h1, h2⟩ := he; exact h1.1.elim
  | ret => obtain ⟨s1, h1, h2⟩ := he; exact h1.elim
  | exit i => obtain ⟨s1, h1, h2⟩ := he; exact h1.elim
  | _ => exact he.elim
def envOf (n : Nat) (env : Nat → AV) : List AV := (List.range n).map env
theorem envOf_len {n : Nat} {env : Nat → AV} : (envOf n env).length = n := by simp [envOf]
theorem envOf_at {n i : Nat} {env : Nat → AV} {a : AV} (h : (envOf n env)[i]? = some a) : i < n ∧ a = env i := by
  unfold envOf at h
  rw [List.getElem?_map, Option.map_eq_some_iff] at h
  obtain ⟨j, h1, h2⟩ := h
  obtain ⟨h3, h4⟩ := List.getElem?_eq_some_iff.1 h1
  simp at h3 h4
  subst h4
  exact ⟨h3, h2.symm⟩
theorem trCode_rangeF {n : Nat} {c : Code} {g : Opd} {ps : List Nat} (h : trCode P n mu c = some (.rangeF g ps x y)) : ∃ g' ps' ca cb, c = .rangeFunc g' ps' ca cb ∧ trOpd n g' = some g ∧ ps'.toList = ps ∧ trCode P n mu ca = some x ∧ trCode P n mu cb = some y := by
  cases c <;> simp only [trCode] at h
  case rangeFunc g' ps' ca cb =>
    split at h
    · rename_i e1 e2 e3
      split at h
      · cases h
        exact ⟨_, _, _, _, rfl, e1, rfl, e2, e3⟩
      · cases h
    · cases h
  all_goals (exfalso; revert h; (repeat' split) <;> simp)
theorem dnS_set {U : AStore} {id : Nat} {b c : Option ABlk} : updE (dnS (updE U (up1 id) b)) id c = updE (dnS U) id c := by
  funext j
  unfold updE
  by_cases e : j = id
  · rw [if_pos e, if_pos e]
  · rw [if_neg e, if_neg e]
    show (if j + 1000 = up1 id then b else U (j + 1000)).map (ABlk.ren dn1) = (U (j + 1000)).map (ABlk.ren dn1)
    rw [if_neg (show ¬ j + 1000 = up1 id by unfold up1; omega)]
theorem clean_off {U : AStore} {i : Nat} {b : ABlk} (h : Clean (updE U i (some b))) (hU : U i = none) : Clean U := fun j c hc => h j c (by
  rw [updE_ne _ (fun e => by rw [e, hU] at hc; cases hc)]
  exact hc)
def upEnv (n : Nat) (env : Nat → AV) : Nat → AV := fun i => if i < n then (env i).ren up1 else .any
theorem upEnv_eq {n : Nat} {env : Nat → AV} : (fun i => ((AV.rens up1 (envOf n env))[i]?).getD .any) = upEnv n env := by
  funext i
  unfold upEnv envOf
  rw [AV.rens_eq, List.map_map, List.getElem?_map]
  by_cases h : i < n
  · rw [if_pos h, List.getElem?_range h]
    rfl
  · rw [if_neg h, List.getElem?_eq_none (by simp; omega)]
    rfl
theorem IWP.rangeF {g : Opd} {ps : List Nat} (htop : C.Top) (id : Nat) (hid : id < 1000) (hfree : s.S id = none) {f : Nat} {caps : List AC} (hg : s.ev g = .one (.fn f caps)) (hpl : plainF P f = true) {α : Type} {encs : α → List AV} {all : List α} {Need : AStore → Prop} (hit : AIter P f (AV.rens up1 (caps.map .one)) Need encs all)
    (hlen : ∀ v, (encs v).length = ps.length) (Inv : List α → AStore → Prop) (Jx : AX → AStore → Prop) (h0 : Inv [] (upS s.S)) (hneed : ∀ pre U b, Inv pre U → U (up1 id) = none → Need (updE U (up1 id) (some b)))
    (hbody : ∀ (C' : Ctx) (b0 b1 : ABlk) (pre : List α) (v : α) (U : AStore), C'.n = C.n → (pre ++ [v]) <+: all → Inv pre U → U (up1 id) = none → Clean U → b1.high = true →
      IWP P C' mu x (AX.then (fun s1 => s1.S (up1 id) = some b0 ∧ IWP P C' mu y (RoundQ C' (up1 id) b1 (Inv (pre ++ [v])) Jx) (s1.set (up1 id) b1)) fun _ _ => False) ⟨setPs (upEnv C.n s.env) ps (encs v), updE U (up1 id) (some b0)⟩)
    (hdone : ∀ U, Inv all U → Q .normal ⟨s.env, updE (dnS U) id (some (.dead 1 0))⟩) (hjump : ∀ e U, Jx e U → Q e ⟨s.env, updE (dnS U) id (some (.dead 1 0))⟩) : IWP P C mu (.rangeF g ps x y) Q s := fun c hc a w hH => by
  obtain ⟨g', ps', ca, cb, rfl, hg', rfl, hx, hy⟩ := trCode_rangeF hc
  obtain ⟨σ, ι, R⟩ := hH
  have rg := R.ev hg'
  rw [hg] at rg
  replace rg := vrep_one rg
  generalize hev : a.eval g' = fv at rg
  cases rg with
  | @fn _ vc _ cc g1 g2 g3 =>
  refine wpIn_rangeFunc fun fn hfn => ?_
  obtain ⟨rec, hrec⟩ : ∃ rec : LoopState → Option Code → Loop, rec = fun st pe => { state := st, pending := pe, fn, tmps := a.tmps, params := ps', assign := ca, body := cb, defers := w.heap.size } := ⟨_, rfl⟩
  obtain ⟨w1, hw1⟩ : ∃ w1, (w.alloc (.deferred (some []))).alloc (.loop (rec .ready none)) = w1 := ⟨_, rfl⟩
  have hsz : (w.alloc (.deferred (some []))).heap.size = w.heap.size + 1 := World.size_alloc _ _
  have R1 : Refs C σ ι s { a with defers := mark w.heap.size :: a.defers } (w.alloc (.deferred (some []))) := by
    have R' := R.more (w' := w.alloc (.deferred (some []))) (Ext.refl _ _) (R.fit.alloc _) (More.alloc _ _)
    refine { R' with nod := ?_ }
    obtain ⟨l, h1, h2, h3, _⟩ := R.nod
    refine ⟨w.heap.size :: l, by show _ :: a.defers = _; rw [h1]; rfl, List.nodup_cons.2 ⟨fun hm => ?_, h2⟩, fun D hD => ?_, fun hm => by rw [htop.2] at hm; cases hm⟩
    · have := (Array.getElem?_eq_some_iff.1 (h3 _ hm).2).1
      omega
    · rcases List.mem_cons.1 hD with rfl | hD
      · exact ⟨R.grown.1, World.alloc_heap_new w _⟩
      · exact ⟨(h3 D hD).1, (Below.heap_alloc _ _ _ (Array.getElem?_eq_some_iff.1 (h3 D hD).2).1).trans (h3 D hD).2⟩
  have hsize := R.size
  obtain ⟨hu2, R2⟩ := R1.fresh (w' := w1) hfree (.loop (envOf C.n s.env) (rec .ready none)) ⟨none, 0, some (w.heap.size + 1)⟩ (Ext.refl _ _) (by rw [← hw1]; exact R1.fit.alloc _) (by rw [← hw1]; exact More.alloc _ _) (fun g hg => by cases hg; omega) (fun S' ι' hu => .loop (g := w.heap.size + 1) rfl (by rw [← hw1, ← hsz]; exact World.alloc_heap_new _ _) (by rw [envOf_len, hrec]; exact hsize) (fun j b hb => by
      obtain ⟨hj, rfl⟩ := envOf_at hb
      rw [hrec]
      exact (R.env j hj).mono (fun _ _ h => h) hu) (fun p hp => R1.fit.no (by rw [hsz]; omega)))
  have hl2 : (updE ι id (⟨none, 0, some (w.heap.size + 1)⟩ : Hnd) id).g = some (w.heap.size + 1) := by rw [updE_same]
  generalize updE ι id (⟨none, 0, some (w.heap.size + 1)⟩ : Hnd) = ι2 at R2 hl2 hu2
  obtain ⟨ι3, hι3, hown, hren, hend⟩ := R2.upped
  have hargs : All2 (VRep σ (upS (s.set id (.loop (envOf C.n s.env) (rec .ready none))).S) ι3) (.func (.yield (w.heap.size + 1)) #[] #[] :: vc.toList) (.one (.yld (up1 id)) :: AV.rens up1 (caps.map .one)) := by
    have hS2 : (s.set id (.loop (envOf C.n s.env) (rec .ready none))).S id = some (.loop (envOf C.n s.env) (rec .ready none)) := updE_same _ _ _
    refine .cons (hren _ _ (.one (.yld hS2 (Nat.le_refl _) rfl fun _ => ⟨_, hl2, rfl⟩))) ?_
    rw [AV.rens_eq]
    refine (All2.mono (fun v c h => hren v c h) ?_).map_right
    refine (All2.of_get (R := fun v c => VRep σ (s.set id (.loop (envOf C.n s.env) (rec .ready none))).S ι2 v (.one c)) (by simpa using g1) fun j v b hv hb => ?_).map_right
    have e := g2 j b hb
    have e2 : vc.toList[j]? = some (cc j) := by simpa using e
    rw [hv] at e2
    cases e2
    exact .one ((g3 j b hb).mono (fun _ _ h => h) hu2)
  have hcl := clean_upS (s.set id (.loop (envOf C.n s.env) (rec .ready none))).S
  have hTeq : upS (s.set id (.loop (envOf C.n s.env) (rec .ready none))).S = updE (upS s.S) (up1 id) (some (.loop (AV.rens up1 (envOf C.n s.env)) (rec .ready none))) := upS_set _ _ _
  have hcall := hit (up1 id) (fun pre T => ∃ U, T = updE U (up1 id) (some (.loop (AV.rens up1 (envOf C.n s.env)) (rec .ready none))) ∧ U (up1 id) = none ∧ Inv pre U)
    (fun T => ∃ U c e, T = updE U (up1 id) (some (.loop (AV.rens up1 (envOf C.n s.env)) (rec .done (some c)))) ∧ U (up1 id) = none ∧ Jump c e ∧ Jx e U)
    _ (up1_le id) (fun pre T hT => by
      obtain ⟨U, rfl, hU, hI⟩ := hT
      exact hneed pre U _ hI hU) (fun pre v hpre T hT => by
      obtain ⟨U, rfl, hU, hI⟩ := hT
      exact round_at hx hy (by rw [AV.rens_eq, List.length_map, envOf_len]) (up1_le id) hrec (by rw [hlen]; simp) hU fun hc C' hC' => by
        rw [upEnv_eq]
        exact hbody C' _ (.loop (AV.rens up1 (envOf C.n s.env)) (rec .busy none)) pre v U hC' hpre hI hU (clean_off hc hU) (AV.rens_high _))
    ⟨_, hTeq, by rw [upS_up, hfree]; rfl, h0⟩ hcl σ w1 _ ι3 (C.glob.mono R.ext) R2.fit hown hargs
  refine ⟨w.heap.size + 1, [mark w.heap.size], w1, { target := .fn (.func f) vc, args := #[.func (.yield (w.heap.size + 1)) #[] #[]] }, w1, f, #[.func (.yield (w.heap.size + 1)) #[] #[]] ++ vc, w1, ?_, ?_, fun _ _ => trivial, ?_, fun h => by simp [fen, Fence.wide] at h, ?_⟩
  · have hr : (fen C.ro).round = none := htop.1
    rw [hr, ← hw1, hrec]
    exact run_enterLoop_outer _ _ _ _ _
  · simp only [resolve, hev]
    simp [go_sem]
  · have := run_enter (P := P) (w := w1) (args := #[.func (.yield (w.heap.size + 1)) #[] #[]] ++ vc) hpl
    simp [invoke, go_sem, this]
  · have he0 : (Value.func (.yield (w.heap.size + 1)) #[] #[] :: vc.toList).toArray = #[.func (.yield (w.heap.size + 1)) #[] #[]] ++ vc := by
      apply Array.ext'
      simp
    rw [he0] at hcall
    refine callsIn_fen (hcall.mono fun e w2 he => ?_)
    obtain ⟨v, r, S', σ', ι4, rfl, hP, hS', hu4, R4⟩ := hend he
    have hl4 : ∀ {b : ABlk}, dnS S' id = some b → b.len = 1 → (ι4 id).g = some (w.heap.size + 1) := fun hb hb1 => by
      obtain ⟨b', h1, h2, h3⟩ := hu4 id _ (show (s.set id (.loop (envOf C.n s.env) (rec .ready none))).S id = some _ from updE_same _ _ _)
      rw [hb] at h1
      cases h1
      rw [(h3 hb1).2]
      exact hl2
    have fin : ∀ (U : AStore) (env : List AV) (st : LoopState) (pe : Option Code), st ≠ .busy → S' = updE U (up1 id) (some (.loop env (rec st pe))) → ∃ w3, (Instr.endLoop (w.heap.size + 1)).run P w2 = .ok pe w3 ∧ Holds C ⟨s.env, updE (dnS U) id (some (.dead 1 0))⟩ { a with defers := mark w.heap.size :: a.defers } w3 := fun U env st pe hst hS => by
      have hb : dnS S' id = some (.loop (AV.rens dn1 env) (rec st pe)) := by
        have := dnS_some (up1_le id) (show S' (up1 id) = some (.loop env (rec st pe)) by rw [hS]; exact updE_same _ _ _)
        rw [dn_up] at this
        exact this
      have hg4 := hl4 hb rfl
      cases hbr : R4.blk id _ hb with
      | loop k1 k2 k3 k4 k5 =>
        rw [hg4] at k1
        cases k1
        obtain ⟨ι5, R5, _⟩ := R4.setBlk (b' := .dead 1 0) (o' := .loop { rec st pe with state := .exhausted }) hb hg4 k2 k5 rfl rfl fun S'' ι'' hu => .dead fun g' hg' => by
          rw [hg4] at hg'
          cases hg'
          exact ⟨_, (set_heap k2).1, rfl⟩
        refine ⟨w2.putObj (w.heap.size + 1) (.loop { rec st pe with state := .exhausted }), ?_, σ', ι5, ?_⟩
        · have := run_endLoop (P := P) k2 (by rw [hrec]; exact hst)
          rw [hrec] at this ⊢
          exact this
        · have e5 : (AS.set ⟨(s.set id (.loop (envOf C.n s.env) (rec .ready none))).env, dnS S'⟩ id (.dead 1 0)) = ⟨s.env, updE (dnS U) id (some (.dead 1 0))⟩ := by
            show AS.mk s.env (updE (dnS S') id _) = _
            rw [hS, dnS_set]
          rw [← e5]
          exact R5
    rcases hP with ⟨U, h1, h2, h3⟩ | ⟨U, c, e, h1, h2, h3, h4⟩
    · obtain ⟨w3, f1, f2⟩ := fin U _ .ready none (by simp) h1
      exact ⟨none, w3, f1, _, hdone U h3, f2⟩
    · obtain ⟨w3, f1, f2⟩ := fin U _ .done (some c) (by simp) h1
      refine ⟨some c, w3, f1, ?_⟩
      cases h3 with
      | ret => exact wpIn_ret ⟨_, hjump _ U h4, f2⟩
      | exit i => exact wpIn_exit ⟨_, hjump _ U h4, f2⟩
end

theorem BRep.cutM {σ : Sto} {S : AStore} {ι : AHnd} {w : World} {h : Hnd} {e : TypeId} {wd : Nat} {xs : List (List SV)} (hr : BRep σ S ι w h (.mrow e wd xs)) (k : Nat) {S' : AStore} {ι' : AHnd} : BRep σ S' ι' w h (.mrow e wd (xs.take k)) := by
  cases hr with
  | mnil h1 h2 => rw [List.take_nil]; exact .mnil h1 h2
  | mrow h1 h2 h3 h4 h5 h6 h7 h8 h9 =>
    refine .mrow h1 h2 h3 (by rw [List.length_take]; omega) h5 h6 (fun x hx => h7 x (List.mem_of_mem_take hx)) (fun j x i a hx ha => h8 j x i a ?_ ha) h9
    rw [List.getElem?_take] at hx
    split at hx
    · exact hx
    · cases hx
theorem Ghost.rebase {C : Ctx} {s : AS} (bx id nid j k N : Nat) {ty e : TypeId} {wd : Nat} {xs : List (List SV)} {cs : List AC} (hN : xs.length < N) (hb : s.S bx = some (.box ty cs)) (hid : s.S id = some (.mrow e wd xs)) (hn : s.S nid = none) (hc : cs[j]? = some (.part id k xs.length) ∨ (cs[j]? = some (.row id k) ∧ k = xs.length)) :
    Ghost C s ⟨s.env, updE (updE (updE s.S id (some (.dead N wd))) nid (some (.mrow e wd (xs.take k)))) bx (some (.box ty (cs.set j (.row nid k))))⟩ := fun a w ⟨σ, ι, R⟩ => by
  have hjl : j < cs.length := by rcases hc with h | ⟨h, _⟩ <;> exact (List.getElem?_eq_some_iff.1 h).1
  have n1 : nid ≠ id := fun e => by subst e; rw [hid] at hn; cases hn
  have n2 : bx ≠ id := fun e => by subst e; rw [hid] at hb; cases hb
  have n3 : bx ≠ nid := fun e => by subst e; rw [hb] at hn; cases hn
  obtain ⟨S2, hS2⟩ : ∃ S2, updE (updE (updE s.S id (some (.dead N wd))) nid (some (.mrow e wd (xs.take k)))) bx (some (.box ty (cs.set j (.row nid k)))) = S2 := ⟨_, rfl⟩
  obtain ⟨ι2, hι2⟩ : ∃ ι2 : AHnd, updE (updE ι id ⟨none, 0, none⟩) nid (ι id) = ι2 := ⟨_, rfl⟩
  rw [hS2]
  have sb : S2 bx = some (.box ty (cs.set j (.row nid k))) := by rw [← hS2, updE_same]
  have sn : S2 nid = some (.mrow e wd (xs.take k)) := by rw [← hS2, updE_ne _ n3.symm, updE_same]
  have si : S2 id = some (.dead N wd) := by rw [← hS2, updE_ne _ n2.symm, updE_ne _ n1.symm, updE_same]
  have so : ∀ i, i ≠ bx → i ≠ nid → i ≠ id → S2 i = s.S i := fun i h1 h2 h3 => by rw [← hS2, updE_ne _ h1, updE_ne _ h2, updE_ne _ h3]
  have ιn : ι2 nid = ι id := by rw [← hι2, updE_same]
  have ιi : ι2 id = ⟨none, 0, none⟩ := by rw [← hι2, updE_ne _ n1.symm, updE_same]
  have ιo : ∀ i, i ≠ nid → i ≠ id → ι2 i = ι i := fun i h2 h3 => by rw [← hι2, updE_ne _ h2, updE_ne _ h3]
  have hu : Upd s.S ι S2 ι2 := fun i b h => by
    by_cases e1 : i = bx
    · subst e1
      rw [hb] at h
      cases h
      exact ⟨_, sb, Nat.le_refl _, fun _ => ⟨rfl, ιo _ n3 n2⟩⟩
    · by_cases e2 : i = id
      · subst e2
        rw [hid] at h
        cases h
        exact ⟨_, si, Nat.le_of_lt hN, fun hl => absurd (show N = xs.length from hl) (by omega)⟩
      · have e3 : i ≠ nid := fun e3 => by subst e3; rw [hn] at h; cases h
        exact ⟨b, (so i e1 e3 e2).trans h, Nat.le_refl _, fun _ => ⟨rfl, ιo i e3 e2⟩⟩
  have old : ∀ i b, S2 i = some b → ∀ g, (ι2 i).g = some g → ∃ i' b', s.S i' = some b' ∧ (ι i').g = some g ∧ (i = nid ∧ i' = id ∨ i' = i ∧ i ≠ nid ∧ i ≠ id) := fun i b h g hg => by
    by_cases e2 : i = id
    · subst e2
      rw [ιi] at hg
      cases hg
    · by_cases e3 : i = nid
      · subst e3
        rw [ιn] at hg
        exact ⟨id, _, hid, hg, .inl ⟨rfl, rfl⟩⟩
      · rw [ιo i e3 e2] at hg
        by_cases e1 : i = bx
        · subst e1
          exact ⟨_, _, hb, hg, .inr ⟨rfl, e3, e2⟩⟩
        · exact ⟨i, b, (so i e1 e3 e2).symm.trans h, hg, .inr ⟨rfl, e3, e2⟩⟩
  refine ⟨σ, ι2, R.size, fun i hi => (R.env i hi).mono (fun _ _ h => h) hu, R.nod, R.fit, fun i b h => ?_, fun i i' b b' g h1 h2 g1 g2 => ?_, fun i b g h hg => ?_, R.ext, R.old, R.os, R.grown, R.same, R.upd.trans hu⟩
  · change S2 i = some b at h
    by_cases e1 : i = bx
    · subst e1
      rw [sb] at h
      cases h
      rw [ιo _ n3 n2]
      cases R.blk _ _ hb with
      | box h1 h2 h3 h4 h5 =>
        refine .box h1 h2 h3 (All2.of_get (by rw [List.length_set]; exact h4.len) fun jj v c hv hcj => ?_) h5
        obtain ⟨c0, hc0⟩ : ∃ c0, cs[jj]? = some c0 := by
          have := (List.getElem?_eq_some_iff.1 hcj).1
          rw [List.length_set] at this
          exact ⟨_, List.getElem?_eq_getElem this⟩
        obtain ⟨v', hv', hr⟩ := h4.get hc0
        rw [hv] at hv'
        cases hv'
        by_cases ej : jj = j
        · subst ej
          rw [List.getElem?_set_self hjl] at hcj
          cases hcj
          rcases hc with hc | ⟨hc, hk⟩
          · rw [hc] at hc0
            cases hc0
            cases hr with
            | part q1 q2 q3 q4 =>
              rw [hid] at q1
              cases q1
              obtain ⟨q5, q6⟩ := q4 rfl
              refine .row sn (by show k ≤ (xs.take k).length; rw [List.length_take]; omega) q3 fun _ => ?_
              rw [ιn]
              exact q6
          · rw [hc] at hc0
            cases hc0
            cases hr with
            | row q1 q2 q3 q4 =>
              rw [hid] at q1
              cases q1
              refine .row sn (by show k ≤ (xs.take k).length; rw [List.length_take]; omega) q3 fun _ => ?_
              rw [ιn]
              exact q4 hk
        · rw [List.getElem?_set_ne (fun h => ej h.symm), hc0] at hcj
          cases hcj
          exact hr.mono (fun _ _ h => h) hu
    · by_cases e2 : i = id
      · subst e2
        rw [si] at h
        cases h
        rw [ιi]
        exact .dead fun g hg => by cases hg
      · by_cases e3 : i = nid
        · subst e3
          rw [sn] at h
          cases h
          rw [ιn]
          exact (R.blk _ _ hid).cutM k
        · rw [ιo i e3 e2]
          exact (R.blk i b ((so i e1 e3 e2).symm.trans h)).mono (fun _ _ h => h) hu (fun _ _ => rfl) (fun _ _ _ _ => rfl)
  · obtain ⟨j1, c1, k1, k2, k3⟩ := old i b h1 g g1
    obtain ⟨j2, c2, l1, l2, l3⟩ := old i' b' h2 g g2
    have := R.inj _ _ _ _ g k1 l1 k2 l2
    rcases k3 with ⟨a1, a2⟩ | ⟨a1, a2, a3⟩ <;> rcases l3 with ⟨b1, b2⟩ | ⟨b1, b2, b3⟩
    · rw [a1, b1]
    · exact absurd (by rw [← b1, ← this, a2] : i' = id) b3
    · exact absurd (by rw [← a1, this, b2] : i = id) a3
    · rw [← a1, ← b1, this]
  · obtain ⟨j1, c1, k1, k2, _⟩ := old i b h g hg
    exact R.base _ _ g k1 k2

def ir_lambda_Names : IR :=
  (.seq (.ops [.i 2 (.mov (.n 0))]) (.seq (.seq (.ops [.m 5 0, .i 6 (.len false (.t 5)), .i 7 (.bin .gtr (.t 6) (.n 40))]) (.cond (.t 7) (.seq (.ops [.i 2 (.mov (.n 3))]) .ret) .skip)) (.seq (.seq (.ops [.m 8 0, .i 9 (.len false (.t 8)), .i 10 (.mov (.n 0))]) (.block 0 (.loop (.seq (.ops [.i 11 (.bin .lss (.t 10) (.t 9))]) (.seq (.cond (.t 11) .skip (.exit 0)) (.seq (.block 1 (.seq (.ops [.m 12 10, .i 13 (.indexAddr 1 (.t 8) (.t 10)), .l 14 13, .m 3 12, .m 4 14]) (.seq (.seq (.ops [.m 15 4, .i 16 (.call 22 [.t 15]), .i 17 (.un .not (.t 16)), .m 18 17, .mk (some 19) (some (18, false)) (.mov (.t 4)) .no, .mk (some 20) (some (18, false)) (.indexStr (.t 19) (.n 0)) .no, .mk (some 21) (some (18, false)) (.bin .eql (.t 20) (.c (.one (.st (.int .u8 120))))) .no, .i 22 (.pick (.t 18) (.c (.one (.st (.bool true)))) (.t 21)), .m 23 22, .mk (some 24) (some (23, false)) (.mov (.t 4)) .no, .mk (some 25) (some (23, false)) (.indexStr (.t 24) (.n 0)) .no, .mk (some 26) (some (23, false)) (.bin .eql (.t 25) (.c (.one (.st (.int .u8 99))))) .no, .i 27 (.pick (.t 23) (.c (.one (.st (.bool true)))) (.t 26))]) (.cond (.t 27) (.seq (.ops [.i 2 (.mov (.n 1))]) .ret) .skip)) (.seq (.ops [.m 28 0, .m 29 3, .i 30 (.sliceL 1 (.t 28) none (some (.t 29))), .m 31 4, .i 32 (.call 23 [.t 30, .t 31])]) (.cond (.t 32) (.seq (.ops [.i 2 (.mov (.n 4))]) .ret) .skip))))) (.ops [.i 33 (.bin .add (.t 10) (.n 1)), .m 10 33]))))))) (.seq (.ops [.i 2 (.mov (.n 0))]) .ret))))
theorem ok_lambda_Names : OkF Tryd.prog 11 34 [] ir_lambda_Names [.t 2] := .of Tryd.func11 rfl rfl (by kernel_rfl) rfl
def ir_R_FreeMay : IR :=
  (.seq (.ops [.i 2 (.mov (.n 0))]) (.seq (.seq (.ops [.m 4 0, .i 5 (.len false (.t 4)), .i 6 (.bin .gtr (.t 5) (.n 40))]) (.cond (.t 6) (.seq (.ops [.i 2 (.mov (.n 3))]) .ret) .skip)) (.seq (.seq (.ops [.i 3 (.mov (.n 0))]) (.block 0 (.loop (.seq (.seq (.ops [.m 7 3, .m 8 0, .i 9 (.len false (.t 8)), .i 10 (.bin .lss (.t 7) (.t 9))]) (.cond (.t 10) .skip (.exit 0))) (.seq (.block 1 (.seq (.seq (.ops [.m 13 0, .m 14 3, .i 15 (.indexAddr 1 (.t 13) (.t 14)), .l 16 15, .i 17 (.call 16 [.t 16]), .i 18 (.un .not (.t 17)), .m 19 18, .mk (some 20) (some (19, false)) (.mov (.t 0)) .no, .mk (some 21) (some (19, false)) (.mov (.t 3)) .no, .mk (some 22) (some (19, false)) (.indexAddr 1 (.t 20) (.t 21)) .no, .mk (some 23) (some (19, false)) (.load false 1 (.t 22)) .no, .mk (some 24) (some (19, false)) (.indexStr (.t 23) (.n 0)) .no, .mk (some 25) (some (19, false)) (.bin .eql (.t 24) (.c (.one (.st (.int .u8 120))))) .no, .i 26 (.pick (.t 19) (.c (.one (.st (.bool true)))) (.t 25)), .m 27 26, .mk (some 28) (some (27, false)) (.mov (.t 0)) .no, .mk (some 29) (some (27, false)) (.mov (.t 3)) .no, .mk (some 30) (some (27, false)) (.indexAddr 1 (.t 28) (.t 29)) .no, .mk (some 31) (some (27, false)) (.load false 1 (.t 30)) .no, .mk (some 32) (some (27, false)) (.indexStr (.t 31) (.n 0)) .no, .mk (some 33) (some (27, false)) (.bin .eql (.t 32) (.c (.one (.st (.int .u8 99))))) .no, .i 34 (.pick (.t 27) (.c (.one (.st (.bool true)))) (.t 33))]) (.cond (.t 34) (.seq (.ops [.i 2 (.mov (.n 1))]) .ret) .skip)) (.seq (.ops [.m 35 0, .m 36 3, .i 37 (.indexAddr 1 (.t 35) (.t 36)), .l 38 37, .m 39 0, .m 40 3, .i 41 (.sliceL 1 (.t 39) none (some (.t 40))), .i 42 (.call 17 [.t 38, .t 41])]) (.cond (.t 42) (.seq (.ops [.i 2 (.mov (.n 4))]) .ret) .skip)))) (.ops [.m 11 3, .i 12 (.bin .add (.t 11) (.n 1)), .m 3 12])))))) (.seq (.ops [.i 2 (.mov (.n 0))]) .ret))))
theorem ok_R_FreeMay : OkF Tryd.prog 6 43 [] ir_R_FreeMay [.t 2] := .of Tryd.func6 rfl rfl (by kernel_rfl) rfl

def freeL : List ByteArray → List ByteArray → Int
  | _, [] => 0
  | p, n :: r => if nameOk n = true ∧ byteAt n 0 ≠ 120 ∧ byteAt n 0 ≠ 99 then (if isIn n p = true then 4 else freeL (p ++ [n]) r) else 1
def freeMay (l : List ByteArray) : Int := if 40 < l.length then 3 else freeL [] l
theorem freeL_at {l : List ByteArray} {k : Nat} {n : ByteArray} (h : l[k]? = some n) : freeL (l.take k) (l.drop k) = if nameOk n = true ∧ byteAt n 0 ≠ 120 ∧ byteAt n 0 ≠ 99 then (if isIn n (l.take k) = true then 4 else freeL (l.take (k + 1)) (l.drop (k + 1))) else 1 := by
  obtain ⟨hk, rfl⟩ := List.getElem?_eq_some_iff.1 h
  rw [List.drop_eq_getElem_cons hk, freeL, take_snoc h]
theorem freeL_range : ∀ (p l : List ByteArray), 0 ≤ freeL p l ∧ freeL p l ≤ 15
  | _, [] => by rw [freeL]; decide
  | p, n :: r => by
    rw [freeL]
    split
    · split
      · decide
      · exact freeL_range _ r
    · decide
theorem freeMay_range (l : List ByteArray) : 0 ≤ freeMay l ∧ freeMay l ≤ 15 := by
  unfold freeMay
  split
  · decide
  · exact freeL_range _ _
theorem names_a (l : List ByteArray) : ACalls Tryd.prog 11 [aStrs l] (aInt (freeMay l)) := by
  refine ok_lambda_Names.ac fun C hC => ?_
  unfold ir_lambda_Names
  unfold freeMay
  by_cases h40 : (40 : Int) < l.length
  · rw [if_pos (by omega)]
    repeat' (first | (with_reducible first | refine W ?_ | refine Wz0 ?_) | ((with_reducible first | refine Wo (fun K hK => ?_) | refine Wp ?_ | refine Wq ?_ | refine Wr ?_); (try simp only [go_sem, fN, seval, eT, iR, h40, dT, dF, nL]); (repeat with_reducible refine Ai ?_); (try (refine hK _ ?_; clear hK K)); (try with_reducible refine iC ?_)))
    simp only [go_sem, fN, seval, FinQ, AS.result, resAll, resOne, tupV]
  rw [if_neg (by omega)]
  repeat' (first | (with_reducible first | refine W ?_ | refine Wz0 ?_) | ((with_reducible first | refine Wo (fun K hK => ?_) | refine Wp ?_ | refine Wq ?_ | refine Wr ?_); (try simp only [go_sem, fN, seval, eT, iR, h40, dT, dF, nL]); (repeat with_reducible refine Ai ?_); (try (refine hK _ ?_; clear hK K)); (try with_reducible refine iC ?_)))
  refine IWP.loop (fun n s => ∃ k, k ≤ l.length ∧ n = l.length - k ∧ freeL [] l = freeL (l.take k) (l.drop k) ∧ s.env 0 = aStrs l ∧ s.env 8 = aStrs l ∧ s.env 9 = aInt l.length ∧ s.env 10 = aInt k) l.length ⟨0, Nat.zero_le _, rfl, by simp, rfl, rfl, rfl, rfl⟩ ?_
  rintro n ⟨env, S⟩ ⟨k, hk, rfl, hf, e0, e8, e9, e10⟩
  simp only at e0 e8 e9 e10
  rw [hf]
  by_cases hlt : (k : Int) < l.length
  · obtain ⟨a, ha⟩ := get_lt (show k < l.length by omega)
    have hpre : (l.map encS).take k = (l.take k).map encS := List.map_take.symm
    rw [freeL_at ha]
    by_cases h1 : nameOk a = true
    case neg =>
      rw [if_neg fun h => h1 h.1]
      repeat' (first | (with_reducible first | refine W ?_ | refine Wz0 ?_) | refine Cg _ (name_a a) ?_ | ((with_reducible first | refine Wo (fun K hK => ?_) | refine Wp ?_ | refine Wq ?_ | refine Wr ?_); (try simp only [go_sem, fN, seval, eT, iR, e0, e8, e9, e10, hlt, ha, h1, dT, dF, nL]); (repeat with_reducible refine Ai ?_); (try (refine hK _ ?_; clear hK K)); (try with_reducible refine iC ?_)))
      simp only [go_sem, fN, seval, FinQ, AS.result, resAll, resOne, tupV]
    obtain ⟨z1, _, _⟩ := nameOk_cases h1
    have z0 : 0 < a.size := z1
    by_cases h2 : byteAt a 0 = 120
    · rw [if_neg fun h => h.2.1 h2]
      repeat' (first | (with_reducible first | refine W ?_ | refine Wz0 ?_) | refine Cg _ (name_a a) ?_ | ((with_reducible first | refine Wo (fun K hK => ?_) | refine Wp ?_ | refine Wq ?_ | refine Wr ?_); (try simp only [go_sem, fN, seval, eT, iR, e0, e8, e9, e10, hlt, ha, h1, h2, z0, byteN_eq, dT, dF, nL]); (repeat with_reducible refine Ai ?_); (try (refine hK _ ?_; clear hK K)); (try with_reducible refine iC ?_)))
      simp only [go_sem, fN, seval, FinQ, AS.result, resAll, resOne, tupV]
    by_cases h3 : byteAt a 0 = 99
    · rw [if_neg fun h => h.2.2 h3]
      repeat' (first | (with_reducible first | refine W ?_ | refine Wz0 ?_) | refine Cg _ (name_a a) ?_ | ((with_reducible first | refine Wo (fun K hK => ?_) | refine Wp ?_ | refine Wq ?_ | refine Wr ?_); (try simp only [go_sem, fN, seval, eT, iR, e0, e8, e9, e10, hlt, ha, h1, h2, h3, z0, byteN_eq, dT, dF, nL]); (repeat with_reducible refine Ai ?_); (try (refine hK _ ?_; clear hK K)); (try with_reducible refine iC ?_)))
      simp only [go_sem, fN, seval, FinQ, AS.result, resAll, resOne, tupV]
    rw [if_pos ⟨h1, h2, h3⟩]
    by_cases h4 : isIn a (l.take k) = true
    · rw [if_pos h4]
      repeat' (first | (with_reducible first | refine W ?_ | refine Wz0 ?_) | refine Cg _ (name_a a) ?_ | refine Cg _ (contains_a (l.take k) a) ?_ | ((with_reducible first | refine Wo (fun K hK => ?_) | refine Wp ?_ | refine Wq ?_ | refine Wr ?_); (try simp only [go_sem, fN, seval, eT, iR, e0, e8, e9, e10, hlt, ha, h1, h2, h3, h4, z0, byteN_eq, hpre, dT, dF, nL]); (repeat with_reducible refine Ai ?_); (try (refine hK _ ?_; clear hK K)); (try with_reducible refine iC ?_)))
      simp only [go_sem, fN, seval, FinQ, AS.result, resAll, resOne, tupV]
    · rw [if_neg h4]
      repeat' (first | (with_reducible first | refine W ?_ | refine Wz0 ?_) | refine Cg _ (name_a a) ?_ | refine Cg _ (contains_a (l.take k) a) ?_ | ((with_reducible first | refine Wo (fun K hK => ?_) | refine Wp ?_ | refine Wq ?_ | refine Wr ?_); (try simp only [go_sem, fN, seval, eT, iR, e0, e8, e9, e10, hlt, ha, h1, h2, h3, h4, z0, byteN_eq, hpre, dT, dF, nL]); (repeat with_reducible refine Ai ?_); (try (refine hK _ ?_; clear hK K)); (try with_reducible refine iC ?_)))
      refine then_normal ⟨l.length - (k + 1), by omega, k + 1, by omega, rfl, rfl, ?_⟩
      simp only [go_sem, fN, seval, eT, iR, e0, e8, e9, e10]
      congr 3
  · rw [List.take_of_length_le (by omega), List.drop_eq_nil_of_le (by omega), freeL]
    repeat' (first | (with_reducible first | refine W ?_ | refine Wz0 ?_) | ((with_reducible first | refine Wo (fun K hK => ?_) | refine Wp ?_ | refine Wq ?_ | refine Wr ?_); (try simp only [go_sem, fN, seval, eT, iR, e0, e8, e9, e10, hlt, dT, dF, nL]); (repeat with_reducible refine Ai ?_); (try (refine hK _ ?_; clear hK K)); (try with_reducible refine iC ?_)))
    simp only [go_sem, fN, seval, FinQ, AS.result, resAll, resOne, tupV]
theorem freeMay_a (l : List ByteArray) : ACalls Tryd.prog 6 [aStrs l] (aInt (freeMay l)) := by
  refine ok_R_FreeMay.ac fun C hC => ?_
  unfold ir_R_FreeMay
  unfold freeMay
  by_cases h40 : (40 : Int) < l.length
  · rw [if_pos (by omega)]
    repeat' (first | (with_reducible first | refine W ?_ | refine Wz0 ?_) | ((with_reducible first | refine Wo (fun K hK => ?_) | refine Wp ?_ | refine Wq ?_ | refine Wr ?_); (try simp only [go_sem, fN, seval, eT, iR, h40, dT, dF, nL]); (repeat with_reducible refine Ai ?_); (try (refine hK _ ?_; clear hK K)); (try with_reducible refine iC ?_)))
    simp only [go_sem, fN, seval, FinQ, AS.result, resAll, resOne, tupV]
  rw [if_neg (by omega)]
  repeat' (first | (with_reducible first | refine W ?_ | refine Wz0 ?_) | ((with_reducible first | refine Wo (fun K hK => ?_) | refine Wp ?_ | refine Wq ?_ | refine Wr ?_); (try simp only [go_sem, fN, seval, eT, iR, h40, dT, dF, nL]); (repeat with_reducible refine Ai ?_); (try (refine hK _ ?_; clear hK K)); (try with_reducible refine iC ?_)))
  refine IWP.loop (fun n s => ∃ k, k ≤ l.length ∧ n = l.length - k ∧ freeL [] l = freeL (l.take k) (l.drop k) ∧ s.env 0 = aStrs l ∧ s.env 3 = aInt k) l.length ⟨0, Nat.zero_le _, rfl, by simp, rfl, rfl⟩ ?_
  rintro n ⟨env, S⟩ ⟨k, hk, rfl, hf, e0, e3⟩
  simp only at e0 e3
  rw [hf]
  by_cases hlt : (k : Int) < l.length
  · obtain ⟨a, ha⟩ := get_lt (show k < l.length by omega)
    have hpre : (l.map encS).take k = (l.take k).map encS := List.map_take.symm
    rw [freeL_at ha]
    by_cases h1 : nameOk a = true
    case neg =>
      rw [if_neg fun h => h1 h.1]
      repeat' (first | (with_reducible first | refine W ?_ | refine Wz0 ?_) | refine Cg _ (isName_a a) ?_ | ((with_reducible first | refine Wo (fun K hK => ?_) | refine Wp ?_ | refine Wq ?_ | refine Wr ?_); (try simp only [go_sem, fN, seval, eT, iR, e0, e3, hlt, ha, h1, dT, dF, nL]); (repeat with_reducible refine Ai ?_); (try (refine hK _ ?_; clear hK K)); (try with_reducible refine iC ?_)))
      simp only [go_sem, fN, seval, FinQ, AS.result, resAll, resOne, tupV]
    obtain ⟨z1, _, _⟩ := nameOk_cases h1
    have z0 : 0 < a.size := z1
    by_cases h2 : byteAt a 0 = 120
    · rw [if_neg fun h => h.2.1 h2]
      repeat' (first | (with_reducible first | refine W ?_ | refine Wz0 ?_) | refine Cg _ (isName_a a) ?_ | ((with_reducible first | refine Wo (fun K hK => ?_) | refine Wp ?_ | refine Wq ?_ | refine Wr ?_); (try simp only [go_sem, fN, seval, eT, iR, e0, e3, hlt, ha, h1, h2, z0, byteN_eq, dT, dF, nL]); (repeat with_reducible refine Ai ?_); (try (refine hK _ ?_; clear hK K)); (try with_reducible refine iC ?_)))
      simp only [go_sem, fN, seval, FinQ, AS.result, resAll, resOne, tupV]
    by_cases h3 : byteAt a 0 = 99
    · rw [if_neg fun h => h.2.2 h3]
      repeat' (first | (with_reducible first | refine W ?_ | refine Wz0 ?_) | refine Cg _ (isName_a a) ?_ | ((with_reducible first | refine Wo (fun K hK => ?_) | refine Wp ?_ | refine Wq ?_ | refine Wr ?_); (try simp only [go_sem, fN, seval, eT, iR, e0, e3, hlt, ha, h1, h2, h3, z0, byteN_eq, dT, dF, nL]); (repeat with_reducible refine Ai ?_); (try (refine hK _ ?_; clear hK K)); (try with_reducible refine iC ?_)))
      simp only [go_sem, fN, seval, FinQ, AS.result, resAll, resOne, tupV]
    rw [if_pos ⟨h1, h2, h3⟩]
    by_cases h4 : isIn a (l.take k) = true
    · rw [if_pos h4]
      repeat' (first | (with_reducible first | refine W ?_ | refine Wz0 ?_) | refine Cg _ (isName_a a) ?_ | refine Cg _ (in_a a (l.take k)) ?_ | ((with_reducible first | refine Wo (fun K hK => ?_) | refine Wp ?_ | refine Wq ?_ | refine Wr ?_); (try simp only [go_sem, fN, seval, eT, iR, e0, e3, hlt, ha, h1, h2, h3, h4, z0, byteN_eq, hpre, dT, dF, nL]); (repeat with_reducible refine Ai ?_); (try (refine hK _ ?_; clear hK K)); (try with_reducible refine iC ?_)))
      simp only [go_sem, fN, seval, FinQ, AS.result, resAll, resOne, tupV]
    · rw [if_neg h4]
      repeat' (first | (with_reducible first | refine W ?_ | refine Wz0 ?_) | refine Cg _ (isName_a a) ?_ | refine Cg _ (in_a a (l.take k)) ?_ | ((with_reducible first | refine Wo (fun K hK => ?_) | refine Wp ?_ | refine Wq ?_ | refine Wr ?_); (try simp only [go_sem, fN, seval, eT, iR, e0, e3, hlt, ha, h1, h2, h3, h4, z0, byteN_eq, hpre, dT, dF, nL]); (repeat with_reducible refine Ai ?_); (try (refine hK _ ?_; clear hK K)); (try with_reducible refine iC ?_)))
      refine then_normal ⟨l.length - (k + 1), by omega, k + 1, by omega, rfl, rfl, ?_⟩
      simp only [go_sem, fN, seval, eT, iR, e0, e3]
      congr 3
  · rw [List.take_of_length_le (by omega), List.drop_eq_nil_of_le (by omega), freeL]
    repeat' (first | (with_reducible first | refine W ?_ | refine Wz0 ?_) | ((with_reducible first | refine Wo (fun K hK => ?_) | refine Wp ?_ | refine Wq ?_ | refine Wr ?_); (try simp only [go_sem, fN, seval, eT, iR, e0, e3, hlt, dT, dF, nL]); (repeat with_reducible refine Ai ?_); (try (refine hK _ ?_; clear hK K)); (try with_reducible refine iC ?_)))
    simp only [go_sem, fN, seval, FinQ, AS.result, resAll, resOne, tupV]

open Go.Proofs Go.Shelf
def Tryd.laysM171_ren : Go.Shelf.Ren := ⟨fun | 171 => 47 | 243 => 51 | 246 => 55 | 283 => 56 | 284 => 57 | 285 => 58 | 286 => 59 | 129 => 61 | 317 => 60 | 318 => 62 | 319 => 63 | 320 => 64 | 337 => 65 | 338 => 66 | n => n, fun | 3 => 3 | 9 => 9 | 2 => 2 | 4 => 4 | 171 => 82 | 0 => 0 | 53 => 83 | 37 => 53 | 5 => 5 | 173 => 86 | 212 => 90 | 51 => 91 | 20 => 20 | 213 => 92 | 46 => 94 | 232 => 97 | 233 => 98 | n => n, fun | 17 => 1 | 18 => 2 | 19 => 3 | n => n⟩
theorem Tryd.laysM171 : Go.Proofs.LaysM.n171 Tryd.prog Tryd.laysM171_ren := {
  mixed := by kernel_rfl
  f129 := Tryd.func61.trans (congrArg some (by kernel_rfl))
  f171 := Tryd.func47.trans (congrArg some (by kernel_rfl))
  f243 := Tryd.func51.trans (congrArg some (by kernel_rfl))
  f246 := Tryd.func55.trans (congrArg some (by kernel_rfl))
  f283 := Tryd.func56.trans (congrArg some (by kernel_rfl))
  f284 := Tryd.func57.trans (congrArg some (by kernel_rfl))
  f285 := Tryd.func58.trans (congrArg some (by kernel_rfl))
  f286 := Tryd.func59.trans (congrArg some (by kernel_rfl))
  f317 := Tryd.func60.trans (congrArg some (by kernel_rfl))
  f318 := Tryd.func62.trans (congrArg some (by kernel_rfl))
  f319 := Tryd.func63.trans (congrArg some (by kernel_rfl))
  f320 := Tryd.func64.trans (congrArg some (by kernel_rfl))
  f337 := Tryd.func65.trans (congrArg some (by kernel_rfl))
  f338 := Tryd.func66.trans (congrArg some (by kernel_rfl))
  t0 := Tryd.underlying0
  a0 := Tryd.isAgg0
  z0 := Tryd.sizeOf0
  v0 := Tryd.zeroValue0
  t2 := Tryd.underlying2
  a2 := Tryd.isAgg2
  z2 := Tryd.sizeOf2
  v2 := Tryd.zeroValue2
  t3 := Tryd.underlying3
  a3 := Tryd.isAgg3
  z3 := Tryd.sizeOf3
  v3 := Tryd.zeroValue3
  t4 := Tryd.underlying4
  a4 := Tryd.isAgg4
  z4 := Tryd.sizeOf4
  v4 := Tryd.zeroValue4
  t5 := Tryd.underlying5
  a5 := Tryd.isAgg5
  z5 := Tryd.sizeOf5
  v5 := Tryd.zeroValue5
  t9 := Tryd.underlying9
  a9 := Tryd.isAgg9
  z9 := Tryd.sizeOf9
  v9 := Tryd.zeroValue9
  t20 := Tryd.underlying20
  a20 := Tryd.isAgg20
  z20 := Tryd.sizeOf20
  v20 := Tryd.zeroValue20
  t37 := Tryd.underlying53
  a37 := Tryd.isAgg53
  z37 := Tryd.sizeOf53
  v37 := Tryd.zeroValue53
  t46 := Tryd.underlying94
  a46 := Tryd.isAgg94
  z46 := Tryd.sizeOf94
  v46 := Tryd.zeroValue94
  t51 := Tryd.underlying91
  a51 := Tryd.isAgg91
  z51 := Tryd.sizeOf91
  v51 := Tryd.zeroValue91
  t53 := Tryd.underlying83
  a53 := Tryd.isAgg83
  z53 := Tryd.sizeOf83
  v53 := Tryd.zeroValue83
  t171 := Tryd.underlying82
  a171 := Tryd.isAgg82
  z171 := Tryd.sizeOf82
  v171 := Tryd.zeroValue82
  t173 := Tryd.underlying86
  a173 := Tryd.isAgg86
  z173 := Tryd.sizeOf86
  v173 := Tryd.zeroValue86
  t212 := Tryd.underlying90
  a212 := Tryd.isAgg90
  z212 := Tryd.sizeOf90
  v212 := Tryd.zeroValue90
  t213 := Tryd.underlying92
  a213 := Tryd.isAgg92
  z213 := Tryd.sizeOf92
  t232 := Tryd.underlying97
  a232 := Tryd.isAgg97
  z232 := Tryd.sizeOf97
  v232 := Tryd.zeroValue97
  t233 := Tryd.underlying98
  a233 := Tryd.isAgg98
  z233 := Tryd.sizeOf98
  v233 := Tryd.zeroValue98
  g17 := by kernel_rfl
  g18 := by kernel_rfl
  g19 := by kernel_rfl
  i0 := by kernel_rfl
  i2 := by kernel_rfl
  i3 := by kernel_rfl
  i4 := by kernel_rfl
  i5 := by kernel_rfl
  i9 := by kernel_rfl
  i20 := by kernel_rfl
  i37 := by kernel_rfl
  i46 := by kernel_rfl
  i51 := by kernel_rfl
  i53 := by kernel_rfl
  i171 := by kernel_rfl
  i173 := by kernel_rfl
  i212 := by kernel_rfl
  i232 := by kernel_rfl
  i233 := by kernel_rfl
  m17 := by kernel_rfl
  m18 := by kernel_rfl
  m19 := by kernel_rfl }



def ir_R_Dec : IR :=
  (.seq (.ops [.i 2 (.mov (.c (.one (.st (.str (ByteArray.mk (#[])))))))]) (.seq (.seq (.ops [.m 3 0, .i 4 (.bin .lss (.t 3) (.n 10))]) (.cond (.t 4) (.seq (.ops [.m 5 0, .i 6 (.bin .add (.n 48) (.t 5)), .i 7 (.conv .u8 (.t 6)), .i 8 (.buildFlat [.t 7]), .i 9 (.strOf (.t 8)), .m 2 9]) .ret) .skip)) (.seq (.ops [.m 10 0, .i 11 (.bin .quo (.t 10) (.n 10)), .i 12 (.call 19 [.t 11]), .m 13 0, .i 14 (.bin .rem (.t 13) (.n 10)), .i 15 (.call 19 [.t 14]), .i 16 (.bin .add (.t 12) (.t 15)), .m 2 16]) .ret)))
theorem ok_R_Dec : OkF Tryd.prog 19 17 [] ir_R_Dec [.t 2] := .of Tryd.func19 rfl rfl (by kernel_rfl) rfl



def ir_lambda_within : IR :=
  (.seq (.ops [.i 2 (.box 24 (.t 0)), .i 4 (.mov (.n 0))]) (.seq (.ops [.m 7 1, .i 8 (.bin .sub (.t 7) (.n 1)), .m 1 8]) (.seq (.seq (.ops [.f 9 2 2, .l 10 9, .i 11 (.len false (.t 10)), .i 12 (.mov (.n 0))]) (.block 0 (.loop (.seq (.ops [.i 13 (.bin .lss (.t 12) (.t 11))]) (.seq (.cond (.t 13) .skip (.exit 0)) (.seq (.block 1 (.seq (.ops [.i 14 (.indexAddr 3 (.t 10) (.t 12)), .L 15 3 14, .i 6 (.alloc 24 [.st (.int .i64 0), .st (.int .i64 0), .full []]), .s 3 6 15]) (.seq (.seq (.ops [.m 16 1, .i 17 (.bin .lss (.t 16) (.n 0))]) (.cond (.t 17) (.exit 0) .skip)) (.ops [.L 18 3 6, .m 19 1, .i 20 (.call 32 [.t 18, .t 19]), .m 1 20])))) (.ops [.i 21 (.bin .add (.t 12) (.n 1)), .m 12 21]))))))) (.seq (.ops [.m 22 1, .m 4 22]) .ret))))
theorem ok_lambda_within : OkF Tryd.prog 32 23 [] ir_lambda_within [.t 4] := .of Tryd.func32 rfl rfl (by kernel_rfl) rfl
def ir_lambda_check : IR :=
  (.seq (.ops [.i 3 (.box 24 (.t 0)), .i 6 (.mov (.n 0))]) (.seq (.seq (.ops [.f 11 0 3, .l 12 11, .i 13 (.bin .lss (.t 12) (.n 1)), .m 14 13, .mk (some 15) (some (14, false)) (.fieldAddr 0 (.t 3)) .no, .mk (some 16) (some (14, false)) (.load false 1 (.t 15)) .no, .mk (some 17) (some (14, false)) (.bin .gtr (.t 16) (.n 5)) .no, .i 18 (.pick (.t 14) (.c (.one (.st (.bool true)))) (.t 17)), .m 19 18, .mk (some 20) (some (19, false)) (.fieldAddr 2 (.t 3)) .no, .mk (some 21) (some (19, false)) (.load false 1 (.t 20)) .no, .mk (some 22) (some (19, false)) (.len false (.t 21)) .no, .mk (some 23) (some (19, false)) (.fieldAddr 0 (.t 3)) .no, .mk (some 24) (some (19, false)) (.load false 1 (.t 23)) .no, .mk (some 25) (some (19, false)) (.indexArr 6 1 (.c (.one (.eptr [.int .i64 0, .int .i64 0, .int .i64 1, .int .i64 2, .int .i64 0, .int .i64 0]))) (.t 24)) .no, .mk (some 26) (some (19, false)) (.load false 1 (.t 25)) .no, .mk (some 27) (some (19, false)) (.bin .neq (.t 22) (.t 26)) .no, .i 28 (.pick (.t 19) (.c (.one (.st (.bool true)))) (.t 27))]) (.cond (.t 28) (.seq (.ops [.i 6 (.mov (.n 2))]) .ret) .skip)) (.seq (.ops [.i 7 (.mov (.n 1))]) (.seq (.seq (.ops [.f 29 0 3, .l 30 29]) (.block 0 (.seq (.ops [.i 32 (.bin .eql (.t 30) (.n 1)), .m 31 32]) (.cond (.t 31) (.ops [.m 33 1, .m 7 33]) (.seq (.ops [.i 35 (.bin .eql (.t 30) (.n 4)), .m 34 35]) (.cond (.t 34) (.ops [.i 7 (.mov (.n 40))]) (.seq (.ops [.i 37 (.bin .eql (.t 30) (.n 5)), .m 36 37]) (.cond (.t 36) (.ops [.m 38 2, .m 7 38]) .skip)))))))) (.seq (.seq (.ops [.f 39 1 3, .l 40 39, .i 41 (.bin .lss (.t 40) (.n 0)), .m 42 41, .mk (some 43) (some (42, false)) (.fieldAddr 1 (.t 3)) .no, .mk (some 44) (some (42, false)) (.load false 1 (.t 43)) .no, .mk (some 45) (some (42, false)) (.mov (.t 7)) .no, .mk (some 46) (some (42, false)) (.bin .geq (.t 44) (.t 45)) .no, .i 47 (.pick (.t 42) (.c (.one (.st (.bool true)))) (.t 46))]) (.cond (.t 47) (.seq (.ops [.i 6 (.mov (.n 15))]) .ret) .skip)) (.seq (.seq (.ops [.f 48 0 3, .l 49 48, .i 50 (.bin .eql (.t 49) (.n 2))]) (.cond (.t 50) (.ops [.m 51 1, .i 52 (.bin .add (.t 51) (.n 1)), .m 1 52]) .skip)) (.seq (.seq (.ops [.f 53 2 3, .l 54 53, .i 55 (.len false (.t 54)), .i 56 (.mov (.n 0))]) (.block 1 (.loop (.seq (.ops [.i 57 (.bin .lss (.t 56) (.t 55))]) (.seq (.cond (.t 57) .skip (.exit 1)) (.seq (.block 2 (.seq (.ops [.i 58 (.indexAddr 3 (.t 54) (.t 56)), .L 59 3 58, .i 9 (.alloc 24 [.st (.int .i64 0), .st (.int .i64 0), .full []]), .s 3 9 59]) (.seq (.ops [.L 60 3 9, .m 61 1, .m 62 2, .i 63 (.call 33 [.t 60, .t 61, .t 62]), .m 10 63]) (.seq (.ops [.m 64 10, .i 65 (.bin .neq (.t 64) (.n 0))]) (.cond (.t 65) (.seq (.ops [.m 66 10, .m 6 66]) .ret) .skip))))) (.ops [.i 67 (.bin .add (.t 56) (.n 1)), .m 56 67]))))))) (.seq (.ops [.i 6 (.mov (.n 0))]) .ret))))))))
theorem ok_lambda_check : OkF Tryd.prog 33 68 [] ir_lambda_check [.t 6] := .of Tryd.func33 rfl rfl (by kernel_rfl) rfl
def ir_lambda_CheckWith : IR :=
  (.seq (.ops [.i 3 (.box 24 (.t 0)), .i 6 (.mov (.n 0))]) (.seq (.seq (.ops [.m 7 1, .i 8 (.bin .lss (.t 7) (.n 0)), .m 9 8, .mk (some 10) (some (9, false)) (.mov (.t 1)) .no, .mk (some 11) (some (9, false)) (.bin .gtr (.t 10) (.n 40)) .no, .i 12 (.pick (.t 9) (.c (.one (.st (.bool true)))) (.t 11))]) (.cond (.t 12) (.seq (.ops [.i 6 (.mov (.n 10))]) .ret) .skip)) (.seq (.seq (.ops [.L 13 3 3, .i 14 (.call 32 [.t 13, .n 200]), .i 15 (.bin .lss (.t 14) (.n 0))]) (.cond (.t 15) (.seq (.ops [.i 6 (.mov (.n 3))]) .ret) .skip)) (.seq (.ops [.L 16 3 3, .m 17 1, .m 18 2, .i 19 (.call 33 [.t 16, .t 17, .t 18]), .m 6 19]) .ret))))
theorem ok_lambda_CheckWith : OkF Tryd.prog 21 20 [] ir_lambda_CheckWith [.t 6] := .of Tryd.func21 rfl rfl (by kernel_rfl) rfl
def ir_lambda_Check : IR :=
  (.seq (.ops [.i 2 (.box 24 (.t 0)), .i 4 (.mov (.n 0))]) (.seq (.ops [.L 5 3 2, .m 6 1, .i 7 (.call 21 [.t 5, .t 6, .n 0]), .m 4 7]) .ret))
theorem ok_lambda_Check : OkF Tryd.prog 10 8 [] ir_lambda_Check [.t 4] := .of Tryd.func10 rfl rfl (by kernel_rfl) rfl
def ir_lambda_Size : IR :=
  (.seq (.ops [.i 1 (.box 24 (.t 0)), .i 2 (.mov (.n 0))]) (.seq (.ops [.i 3 (.mov (.n 1))]) (.seq (.seq (.ops [.f 6 2 1, .l 7 6, .i 8 (.len false (.t 7)), .i 9 (.mov (.n 0))]) (.block 0 (.loop (.seq (.ops [.i 10 (.bin .lss (.t 9) (.t 8))]) (.seq (.cond (.t 10) .skip (.exit 0)) (.seq (.block 1 (.seq (.ops [.i 11 (.indexAddr 3 (.t 7) (.t 9)), .L 12 3 11, .i 5 (.alloc 24 [.st (.int .i64 0), .st (.int .i64 0), .full []]), .s 3 5 12]) (.ops [.m 13 3, .L 14 3 5, .i 15 (.call 43 [.t 14]), .i 16 (.bin .add (.t 13) (.t 15)), .m 3 16]))) (.ops [.i 17 (.bin .add (.t 9) (.n 1)), .m 9 17]))))))) (.seq (.ops [.m 18 3, .m 2 18]) .ret))))
theorem ok_lambda_Size : OkF Tryd.prog 43 19 [] ir_lambda_Size [.t 2] := .of Tryd.func43 rfl rfl (by kernel_rfl) rfl
def ir_lambda_V : IR :=
  (.seq (.ops [.i 2 (.alloc 24 [.st (.int .i64 0), .st (.int .i64 0), .full []])]) (.seq (.ops [.m 3 0, .i 4 (.build [.st (.int .i64 0), .st (.int .i64 0), .full []] [(0, 1, .n 1), (1, 1, .t 3)]), .s 3 2 4]) .ret))
theorem ok_lambda_V : OkF Tryd.prog 53 5 [] ir_lambda_V [.cell 2 true 3] := .of Tryd.func53 rfl rfl (by kernel_rfl) rfl
def ir_lambda_Move : IR :=
  (.seq (.ops [.i 3 (.box 24 (.t 0)), .i 6 (.alloc 24 [.st (.int .i64 0), .st (.int .i64 0), .full []])]) (.seq (.ops [.f 10 0 3, .l 11 10, .f 12 1 3, .l 13 12, .i 14 (.build [.st (.int .i64 0), .st (.int .i64 0), .full []] [(0, 1, .t 11), (1, 1, .t 13)]), .i 7 (.alloc 24 [.st (.int .i64 0), .st (.int .i64 0), .full []]), .s 3 7 14]) (.seq (.seq (.ops [.f 15 0 3, .l 16 15]) (.block 0 (.seq (.ops [.i 18 (.bin .eql (.t 16) (.n 1)), .m 17 18]) (.cond (.t 17) (.seq (.ops [.f 19 1 3, .l 20 19, .m 21 2, .i 22 (.bin .geq (.t 20) (.t 21))]) (.cond (.t 22) (.ops [.f 23 1 7, .l 24 23, .m 25 1, .i 26 (.bin .add (.t 24) (.t 25)), .f 27 1 7, .s 1 27 26]) .skip)) (.seq (.ops [.i 29 (.bin .eql (.t 16) (.n 2)), .m 28 29]) (.cond (.t 28) (.ops [.m 30 2, .i 31 (.bin .add (.t 30) (.n 1)), .m 2 31]) .skip)))))) (.seq (.seq (.ops [.f 32 2 3, .l 33 32, .i 34 (.len false (.t 33)), .i 35 (.mov (.n 0))]) (.block 1 (.loop (.seq (.ops [.i 36 (.bin .lss (.t 35) (.t 34))]) (.seq (.cond (.t 36) .skip (.exit 1)) (.seq (.block 2 (.seq (.ops [.i 37 (.indexAddr 3 (.t 33) (.t 35)), .L 38 3 37, .i 9 (.alloc 24 [.st (.int .i64 0), .st (.int .i64 0), .full []]), .s 3 9 38]) (.ops [.f 39 2 7, .l 40 39, .L 41 3 9, .m 42 1, .m 43 2, .i 44 (.call 52 [.t 41, .t 42, .t 43]), .i 45 (.buildSlice false 24 3 [.t 44]), .i 46 (.append false 24 3 40 (.t 40) (.t 45)), .f 47 2 7, .s 1 47 46]))) (.ops [.i 48 (.bin .add (.t 35) (.n 1)), .m 35 48]))))))) (.seq (.ops [.L 49 3 7, .s 3 6 49]) .ret)))))
theorem ok_lambda_Move : OkF Tryd.prog 52 50 [] ir_lambda_Move [.cell 6 true 3] := .of Tryd.func52 rfl rfl (by kernel_rfl) rfl
def ir_lambda_into : IR :=
  (.seq (.ops [.i 3 (.box 24 (.t 0)), .i 4 (.box 24 (.t 1)), .i 6 (.alloc 24 [.st (.int .i64 0), .st (.int .i64 0), .full []])]) (.seq (.seq (.ops [.f 10 0 3, .l 11 10, .i 12 (.bin .eql (.t 11) (.n 1))]) (.cond (.t 12) (.seq (.block 0 (.seq (.ops [.f 14 1 3, .l 15 14, .m 16 2, .i 17 (.bin .eql (.t 15) (.t 16)), .m 13 17]) (.cond (.t 13) (.seq (.ops [.L 18 3 4, .m 19 2, .i 20 (.call 52 [.t 18, .t 19, .n 0]), .s 3 6 20]) .ret) (.seq (.ops [.f 22 1 3, .l 23 22, .m 24 2, .i 25 (.bin .gtr (.t 23) (.t 24)), .m 21 25]) (.cond (.t 21) (.seq (.ops [.f 26 1 3, .l 27 26, .i 28 (.bin .sub (.t 27) (.n 1)), .i 29 (.call 53 [.t 28]), .s 3 6 29]) .ret) .skip))))) (.seq (.ops [.f 30 1 3, .l 31 30, .i 32 (.call 53 [.t 31]), .s 3 6 32]) .ret)) .skip)) (.seq (.ops [.f 33 0 3, .l 34 33, .f 35 1 3, .l 36 35, .i 37 (.build [.st (.int .i64 0), .st (.int .i64 0), .full []] [(0, 1, .t 34), (1, 1, .t 36)]), .i 7 (.alloc 24 [.st (.int .i64 0), .st (.int .i64 0), .full []]), .s 3 7 37]) (.seq (.seq (.ops [.f 38 0 3, .l 39 38, .i 40 (.bin .eql (.t 39) (.n 2))]) (.cond (.t 40) (.ops [.m 41 2, .i 42 (.bin .add (.t 41) (.n 1)), .m 2 42]) .skip)) (.seq (.seq (.ops [.f 43 2 3, .l 44 43, .i 45 (.len false (.t 44)), .i 46 (.mov (.n 0))]) (.block 1 (.loop (.seq (.ops [.i 47 (.bin .lss (.t 46) (.t 45))]) (.seq (.cond (.t 47) .skip (.exit 1)) (.seq (.block 2 (.seq (.ops [.i 48 (.indexAddr 3 (.t 44) (.t 46)), .L 49 3 48, .i 9 (.alloc 24 [.st (.int .i64 0), .st (.int .i64 0), .full []]), .s 3 9 49]) (.ops [.f 50 2 7, .l 51 50, .L 52 3 9, .L 53 3 4, .m 54 2, .i 55 (.call 49 [.t 52, .t 53, .t 54]), .i 56 (.buildSlice false 24 3 [.t 55]), .i 57 (.append false 24 3 40 (.t 51) (.t 56)), .f 58 2 7, .s 1 58 57]))) (.ops [.i 59 (.bin .add (.t 46) (.n 1)), .m 46 59]))))))) (.seq (.ops [.L 60 3 7, .s 3 6 60]) .ret))))))
theorem ok_lambda_into : OkF Tryd.prog 49 61 [] ir_lambda_into [.cell 6 true 3] := .of Tryd.func49 rfl rfl (by kernel_rfl) rfl
def ir_lambda_Into : IR :=
  (.seq (.ops [.i 2 (.box 24 (.t 0)), .i 3 (.box 24 (.t 1)), .i 4 (.alloc 24 [.st (.int .i64 0), .st (.int .i64 0), .full []])]) (.seq (.ops [.L 5 3 2, .L 6 3 3, .i 7 (.call 49 [.t 5, .t 6, .n 0]), .s 3 4 7]) .ret))
theorem ok_lambda_Into : OkF Tryd.prog 42 8 [] ir_lambda_Into [.cell 4 true 3] := .of Tryd.func42 rfl rfl (by kernel_rfl) rfl
def ir_lambda_Put : IR :=
  (.seq (.ops [.i 3 (.box 24 (.t 0)), .i 4 (.box 24 (.t 1)), .i 6 (.alloc 24 [.st (.int .i64 0), .st (.int .i64 0), .full []]), .i 7 (.mov (.n 0))]) (.seq (.seq (.ops [.m 10 2, .i 11 (.bin .lss (.t 10) (.n 0)), .m 12 11, .mk (some 13) (some (12, false)) (.mov (.t 2)) .no, .mk (some 14) (some (12, false)) (.bin .geq (.t 13) (.n 40)) .no, .i 15 (.pick (.t 12) (.c (.one (.st (.bool true)))) (.t 14))]) (.cond (.t 15) (.seq (.ops [.i 16 (.build [.st (.int .i64 0), .st (.int .i64 0), .full []] []), .s 3 6 16, .i 7 (.mov (.n 10))]) .ret) .skip)) (.seq (.ops [.L 17 3 3, .m 18 2, .i 19 (.bin .add (.t 18) (.n 1)), .i 20 (.call 10 [.t 17, .t 19]), .m 8 20]) (.seq (.seq (.ops [.m 21 8, .i 22 (.bin .eql (.t 21) (.n 0))]) (.cond (.t 22) (.ops [.L 23 3 4, .m 24 2, .i 25 (.call 10 [.t 23, .t 24]), .m 8 25]) .skip)) (.seq (.seq (.ops [.m 26 8, .i 27 (.bin .neq (.t 26) (.n 0))]) (.cond (.t 27) (.seq (.ops [.i 28 (.build [.st (.int .i64 0), .st (.int .i64 0), .full []] []), .m 29 8, .s 3 6 28, .m 7 29]) .ret) .skip)) (.seq (.seq (.ops [.L 30 3 3, .L 31 3 4, .i 32 (.call 42 [.t 30, .t 31]), .i 9 (.alloc 24 [.st (.int .i64 0), .st (.int .i64 0), .full []]), .s 3 9 32]) (.seq (.ops [.L 33 3 9, .i 34 (.call 43 [.t 33]), .i 35 (.bin .leq (.t 34) (.n 2000))]) (.cond (.t 35) (.seq (.ops [.L 36 3 9, .s 3 6 36, .i 7 (.mov (.n 0))]) .ret) .skip))) (.seq (.ops [.i 37 (.build [.st (.int .i64 0), .st (.int .i64 0), .full []] []), .s 3 6 37, .i 7 (.mov (.n 8))]) .ret)))))))
theorem ok_lambda_Put : OkF Tryd.prog 26 38 [] ir_lambda_Put [.cell 6 true 3, .t 7] := .of Tryd.func26 rfl rfl (by kernel_rfl) rfl
def ir_R_LamSize : IR :=
  (.seq (.ops [.i 2 (.box 24 (.t 0)), .i 4 (.mov (.n 0))]) (.seq (.ops [.i 5 (.mov (.n 1))]) (.seq (.seq (.ops [.i 6 (.mov (.n 0))]) (.block 0 (.loop (.seq (.seq (.ops [.m 7 6, .f 8 2 2, .l 9 8, .i 10 (.len false (.t 9)), .i 11 (.bin .lss (.t 7) (.t 10)), .m 12 11, .mk (some 13) (some (12, true)) (.mov (.t 5)) .no, .mk (some 14) (some (12, true)) (.mov (.t 1)) .no, .mk (some 15) (some (12, true)) (.bin .leq (.t 13) (.t 14)) .no, .i 16 (.pick (.t 12) (.t 15) (.c (.one (.st (.bool false)))))]) (.cond (.t 16) .skip (.exit 0))) (.seq (.block 1 (.ops [.m 19 5, .f 20 2 2, .l 21 20, .m 22 6, .i 23 (.indexAddr 3 (.t 21) (.t 22)), .L 24 3 23, .m 25 1, .m 26 5, .i 27 (.bin .sub (.t 25) (.t 26)), .i 28 (.call 15 [.t 24, .t 27]), .i 29 (.bin .add (.t 19) (.t 28)), .m 5 29])) (.ops [.m 17 6, .i 18 (.bin .add (.t 17) (.n 1)), .m 6 18])))))) (.seq (.seq (.ops [.m 30 5, .m 31 1, .i 32 (.bin .gtr (.t 30) (.t 31))]) (.cond (.t 32) (.seq (.ops [.m 33 1, .i 34 (.bin .add (.t 33) (.n 1)), .m 4 34]) .ret) .skip)) (.seq (.ops [.m 35 5, .m 4 35]) .ret)))))
theorem ok_R_LamSize : OkF Tryd.prog 15 36 [] ir_R_LamSize [.t 4] := .of Tryd.func15 rfl rfl (by kernel_rfl) rfl
def ir_R_LamMay : IR :=
  (.seq (.ops [.i 3 (.box 24 (.t 0)), .i 6 (.mov (.n 0))]) (.seq (.seq (.ops [.m 7 1, .i 8 (.bin .lss (.t 7) (.n 0)), .m 9 8, .mk (some 10) (some (9, false)) (.mov (.t 1)) .no, .mk (some 11) (some (9, false)) (.bin .gtr (.t 10) (.n 40)) .no, .i 12 (.pick (.t 9) (.c (.one (.st (.bool true)))) (.t 11))]) (.cond (.t 12) (.seq (.ops [.i 6 (.mov (.n 10))]) .ret) .skip)) (.seq (.seq (.ops [.L 13 3 3, .i 14 (.call 15 [.t 13, .n 200]), .i 15 (.bin .gtr (.t 14) (.n 200))]) (.cond (.t 15) (.seq (.ops [.i 6 (.mov (.n 3))]) .ret) .skip)) (.seq (.ops [.L 16 3 3, .m 17 1, .m 18 2, .i 19 (.call 18 [.t 16, .t 17, .t 18]), .m 6 19]) .ret))))
theorem ok_R_LamMay : OkF Tryd.prog 7 20 [] ir_R_LamMay [.t 6] := .of Tryd.func7 rfl rfl (by kernel_rfl) rfl
def ir_R_lamMay : IR :=
  (.seq (.ops [.i 3 (.box 24 (.t 0)), .i 6 (.mov (.n 0))]) (.seq (.ops [.i 7 (.mov (.n 1))]) (.seq (.ops [.i 8 (.mov (.n 0))]) (.seq (.ops [.m 12 1, .m 9 12]) (.seq (.seq (.ops [.f 13 0 3, .l 14 13]) (.block 0 (.seq (.ops [.i 16 (.bin .eql (.t 14) (.n 1)), .m 15 16]) (.cond (.t 15) (.ops [.m 17 1, .m 7 17]) (.seq (.ops [.i 19 (.bin .eql (.t 14) (.n 2)), .m 18 19]) (.cond (.t 18) (.seq (.ops [.i 8 (.mov (.n 1))]) (.ops [.m 20 1, .i 21 (.bin .add (.t 20) (.n 1)), .m 9 21])) (.seq (.ops [.i 23 (.bin .eql (.t 14) (.n 3)), .m 22 23]) (.cond (.t 22) (.ops [.i 8 (.mov (.n 2))]) (.seq (.ops [.i 25 (.bin .eql (.t 14) (.n 4)), .m 24 25]) (.cond (.t 24) (.ops [.i 7 (.mov (.n 40))]) (.seq (.ops [.i 27 (.bin .eql (.t 14) (.n 5)), .m 26 27]) (.cond (.t 26) (.ops [.m 28 2, .m 7 28]) (.seq (.ops [.i 6 (.mov (.n 2))]) .ret))))))))))))) (.seq (.seq (.ops [.f 29 2 3, .l 30 29, .i 31 (.len false (.t 30)), .m 32 8, .i 33 (.bin .neq (.t 31) (.t 32))]) (.cond (.t 33) (.seq (.ops [.i 6 (.mov (.n 2))]) .ret) .skip)) (.seq (.seq (.ops [.f 34 1 3, .l 35 34, .i 36 (.bin .lss (.t 35) (.n 0)), .m 37 36, .mk (some 38) (some (37, false)) (.fieldAddr 1 (.t 3)) .no, .mk (some 39) (some (37, false)) (.load false 1 (.t 38)) .no, .mk (some 40) (some (37, false)) (.mov (.t 7)) .no, .mk (some 41) (some (37, false)) (.bin .geq (.t 39) (.t 40)) .no, .i 42 (.pick (.t 37) (.c (.one (.st (.bool true)))) (.t 41))]) (.cond (.t 42) (.seq (.ops [.i 6 (.mov (.n 15))]) .ret) .skip)) (.seq (.seq (.ops [.i 10 (.mov (.n 0))]) (.block 1 (.loop (.seq (.seq (.ops [.m 43 10, .m 44 8, .i 45 (.bin .lss (.t 43) (.t 44))]) (.cond (.t 45) .skip (.exit 1))) (.seq (.block 2 (.seq (.ops [.f 48 2 3, .l 49 48, .m 50 10, .i 51 (.indexAddr 3 (.t 49) (.t 50)), .L 52 3 51, .m 53 9, .m 54 2, .i 55 (.call 18 [.t 52, .t 53, .t 54]), .m 11 55]) (.seq (.ops [.m 56 11, .i 57 (.bin .neq (.t 56) (.n 0))]) (.cond (.t 57) (.seq (.ops [.m 58 11, .m 6 58]) .ret) .skip)))) (.ops [.m 46 10, .i 47 (.bin .add (.t 46) (.n 1)), .m 10 47])))))) (.seq (.ops [.i 6 (.mov (.n 0))]) .ret)))))))))
theorem ok_R_lamMay : OkF Tryd.prog 18 59 [] ir_R_lamMay [.t 6] := .of Tryd.func18 rfl rfl (by kernel_rfl) rfl
def ir_R_SameLam : IR :=
  (.seq (.ops [.i 2 (.box 24 (.t 0)), .i 3 (.box 24 (.t 1)), .i 4 (.mov (.c (.one (.st (.bool false)))))]) (.seq (.seq (.ops [.f 6 0 2, .l 7 6, .f 8 0 3, .l 9 8, .i 10 (.bin .neq (.t 7) (.t 9)), .m 11 10, .mk (some 12) (some (11, false)) (.fieldAddr 1 (.t 2)) .no, .mk (some 13) (some (11, false)) (.load false 1 (.t 12)) .no, .mk (some 14) (some (11, false)) (.fieldAddr 1 (.t 3)) .no, .mk (some 15) (some (11, false)) (.load false 1 (.t 14)) .no, .mk (some 16) (some (11, false)) (.bin .neq (.t 13) (.t 15)) .no, .i 17 (.pick (.t 11) (.c (.one (.st (.bool true)))) (.t 16)), .m 18 17, .mk (some 19) (some (18, false)) (.fieldAddr 2 (.t 2)) .no, .mk (some 20) (some (18, false)) (.load false 1 (.t 19)) .no, .mk (some 21) (some (18, false)) (.len false (.t 20)) .no, .mk (some 22) (some (18, false)) (.fieldAddr 2 (.t 3)) .no, .mk (some 23) (some (18, false)) (.load false 1 (.t 22)) .no, .mk (some 24) (some (18, false)) (.len false (.t 23)) .no, .mk (some 25) (some (18, false)) (.bin .neq (.t 21) (.t 24)) .no, .i 26 (.pick (.t 18) (.c (.one (.st (.bool true)))) (.t 25))]) (.cond (.t 26) (.seq (.ops [.i 4 (.mov (.c (.one (.st (.bool false)))))]) .ret) .skip)) (.seq (.seq (.ops [.i 5 (.mov (.n 0))]) (.block 0 (.loop (.seq (.seq (.ops [.m 27 5, .f 28 2 2, .l 29 28, .i 30 (.len false (.t 29)), .i 31 (.bin .lss (.t 27) (.t 30))]) (.cond (.t 31) .skip (.exit 0))) (.seq (.block 1 (.seq (.ops [.f 34 2 2, .l 35 34, .m 36 5, .i 37 (.indexAddr 3 (.t 35) (.t 36)), .L 38 3 37, .f 39 2 3, .l 40 39, .m 41 5, .i 42 (.indexAddr 3 (.t 40) (.t 41)), .L 43 3 42, .i 44 (.call 44 [.t 38, .t 43]), .i 45 (.un .not (.t 44))]) (.cond (.t 45) (.seq (.ops [.i 4 (.mov (.c (.one (.st (.bool false)))))]) .ret) .skip))) (.ops [.m 32 5, .i 33 (.bin .add (.t 32) (.n 1)), .m 5 33])))))) (.seq (.ops [.i 4 (.mov (.c (.one (.st (.bool true)))))]) .ret))))
theorem ok_R_SameLam : OkF Tryd.prog 44 46 [] ir_R_SameLam [.t 4] := .of Tryd.func44 rfl rfl (by kernel_rfl) rfl
def ir_R_Var : IR :=
  (.seq (.ops [.i 2 (.alloc 24 [.st (.int .i64 0), .st (.int .i64 0), .full []])]) (.seq (.ops [.m 3 0, .i 4 (.build [.st (.int .i64 0), .st (.int .i64 0), .full []] [(0, 1, .n 1), (1, 1, .t 3)]), .s 3 2 4]) .ret))
theorem ok_R_Var : OkF Tryd.prog 38 5 [] ir_R_Var [.cell 2 true 3] := .of Tryd.func38 rfl rfl (by kernel_rfl) rfl
def ir_R_Higher : IR :=
  (.seq (.ops [.i 3 (.box 24 (.t 0)), .i 6 (.alloc 24 [.st (.int .i64 0), .st (.int .i64 0), .full []])]) (.seq (.seq (.ops [.f 9 0 3, .l 10 9, .i 11 (.bin .eql (.t 10) (.n 1))]) (.cond (.t 11) (.seq (.seq (.ops [.f 12 1 3, .l 13 12, .m 14 2, .i 15 (.bin .lss (.t 13) (.t 14))]) (.cond (.t 15) (.seq (.ops [.L 16 3 3, .s 3 6 16]) .ret) .skip)) (.seq (.ops [.f 17 1 3, .l 18 17, .m 19 1, .i 20 (.bin .add (.t 18) (.t 19)), .i 21 (.call 38 [.t 20]), .s 3 6 21]) .ret)) .skip)) (.seq (.seq (.ops [.f 22 0 3, .l 23 22, .i 24 (.bin .eql (.t 23) (.n 2))]) (.cond (.t 24) (.ops [.m 25 2, .i 26 (.bin .add (.t 25) (.n 1)), .m 2 26]) .skip)) (.seq (.ops [.f 27 0 3, .l 28 27, .f 29 1 3, .l 30 29, .i 31 (.build [.st (.int .i64 0), .st (.int .i64 0), .full []] [(0, 1, .t 28), (1, 1, .t 30)]), .i 7 (.alloc 24 [.st (.int .i64 0), .st (.int .i64 0), .full []]), .s 3 7 31]) (.seq (.seq (.ops [.i 8 (.mov (.n 0))]) (.block 0 (.loop (.seq (.seq (.ops [.m 32 8, .f 33 2 3, .l 34 33, .i 35 (.len false (.t 34)), .i 36 (.bin .lss (.t 32) (.t 35))]) (.cond (.t 36) .skip (.exit 0))) (.seq (.block 1 (.ops [.f 39 2 7, .l 40 39, .f 41 2 3, .l 42 41, .m 43 8, .i 44 (.indexAddr 3 (.t 42) (.t 43)), .L 45 3 44, .m 46 1, .m 47 2, .i 48 (.call 48 [.t 45, .t 46, .t 47]), .i 49 (.buildSlice false 24 3 [.t 48]), .i 50 (.append false 24 3 40 (.t 40) (.t 49)), .f 51 2 7, .s 1 51 50])) (.ops [.m 37 8, .i 38 (.bin .add (.t 37) (.n 1)), .m 8 38])))))) (.seq (.ops [.L 52 3 7, .s 3 6 52]) .ret))))))
theorem ok_R_Higher : OkF Tryd.prog 48 53 [] ir_R_Higher [.cell 6 true 3] := .of Tryd.func48 rfl rfl (by kernel_rfl) rfl
def ir_R_Instead : IR :=
  (.seq (.ops [.i 3 (.box 24 (.t 0)), .i 6 (.alloc 24 [.st (.int .i64 0), .st (.int .i64 0), .full []])]) (.seq (.seq (.ops [.f 10 0 3, .l 11 10, .i 12 (.bin .eql (.t 11) (.n 1))]) (.cond (.t 12) (.seq (.seq (.ops [.f 13 1 3, .l 14 13, .m 15 2, .i 16 (.bin .lss (.t 14) (.t 15))]) (.cond (.t 16) (.seq (.ops [.L 17 3 3, .s 3 6 17]) .ret) .skip)) (.seq (.ops [.f 18 1 3, .l 19 18, .m 20 2, .i 21 (.bin .sub (.t 19) (.t 20)), .m 7 21]) (.seq (.seq (.ops [.m 22 7, .m 23 1, .i 24 (.len false (.t 23)), .i 25 (.bin .lss (.t 22) (.t 24))]) (.cond (.t 25) (.seq (.ops [.m 26 1, .m 27 7, .i 28 (.indexAddr 3 (.t 26) (.t 27)), .L 29 3 28, .m 30 2, .i 31 (.call 48 [.t 29, .t 30, .n 0]), .s 3 6 31]) .ret) .skip)) (.seq (.ops [.f 32 1 3, .l 33 32, .m 34 1, .i 35 (.len false (.t 34)), .i 36 (.bin .sub (.t 33) (.t 35)), .i 37 (.call 38 [.t 36]), .s 3 6 37]) .ret)))) .skip)) (.seq (.seq (.ops [.f 38 0 3, .l 39 38, .i 40 (.bin .eql (.t 39) (.n 2))]) (.cond (.t 40) (.ops [.m 41 2, .i 42 (.bin .add (.t 41) (.n 1)), .m 2 42]) .skip)) (.seq (.ops [.f 43 0 3, .l 44 43, .f 45 1 3, .l 46 45, .i 47 (.build [.st (.int .i64 0), .st (.int .i64 0), .full []] [(0, 1, .t 44), (1, 1, .t 46)]), .i 8 (.alloc 24 [.st (.int .i64 0), .st (.int .i64 0), .full []]), .s 3 8 47]) (.seq (.seq (.ops [.i 9 (.mov (.n 0))]) (.block 0 (.loop (.seq (.seq (.ops [.m 48 9, .f 49 2 3, .l 50 49, .i 51 (.len false (.t 50)), .i 52 (.bin .lss (.t 48) (.t 51))]) (.cond (.t 52) .skip (.exit 0))) (.seq (.block 1 (.ops [.f 55 2 8, .l 56 55, .f 57 2 3, .l 58 57, .m 59 9, .i 60 (.indexAddr 3 (.t 58) (.t 59)), .L 61 3 60, .m 62 1, .m 63 2, .i 64 (.call 41 [.t 61, .t 62, .t 63]), .i 65 (.buildSlice false 24 3 [.t 64]), .i 66 (.append false 24 3 40 (.t 56) (.t 65)), .f 67 2 8, .s 1 67 66])) (.ops [.m 53 9, .i 54 (.bin .add (.t 53) (.n 1)), .m 9 54])))))) (.seq (.ops [.L 68 3 8, .s 3 6 68]) .ret))))))
theorem ok_R_Instead : OkF Tryd.prog 41 69 [] ir_R_Instead [.cell 6 true 3] := .of Tryd.func41 rfl rfl (by kernel_rfl) rfl
def ir_R_Beta : IR :=
  (.seq (.ops [.i 2 (.box 24 (.t 0)), .i 3 (.box 24 (.t 1)), .i 4 (.alloc 24 [.st (.int .i64 0), .st (.int .i64 0), .full []])]) (.seq (.ops [.L 5 3 2, .L 6 3 3, .i 7 (.buildSlice false 24 3 [.t 6]), .i 8 (.call 41 [.t 5, .t 7, .n 0]), .s 3 4 8]) .ret))
theorem ok_R_Beta : OkF Tryd.prog 25 9 [] ir_R_Beta [.cell 4 true 3] := .of Tryd.func25 rfl rfl (by kernel_rfl) rfl
def ir_L_lam2 : IR :=
  (.seq (.ops [.i 4 (.box 24 (.t 0)), .i 6 (.box 24 (.t 2)), .i 8 (.mov (.c (.one (.st (.bool false)))))]) (.seq (.seq (.ops [.m 9 3, .i 10 (.bin .neq (.t 9) (.n 0))]) (.cond (.t 10) (.seq (.ops [.m 11 1, .m 12 3, .i 13 (.bin .eql (.t 11) (.t 12)), .m 14 13, .mk (some 15) (some (14, true)) (.fieldAddr 0 (.t 4)) .no, .mk (some 16) (some (14, true)) (.load false 1 (.t 15)) .no, .mk (some 17) (some (14, true)) (.bin .eql (.t 16) (.n 0)) .no, .i 18 (.pick (.t 14) (.t 17) (.c (.one (.st (.bool false))))), .m 19 18, .mk (some 20) (some (19, true)) (.fieldAddr 1 (.t 4)) .no, .mk (some 21) (some (19, true)) (.load false 1 (.t 20)) .no, .mk (some 22) (some (19, true)) (.bin .eql (.t 21) (.n 0)) .no, .i 23 (.pick (.t 19) (.t 22) (.c (.one (.st (.bool false))))), .m 24 23, .mk (some 25) (some (24, true)) (.fieldAddr 2 (.t 4)) .no, .mk (some 26) (some (24, true)) (.load false 1 (.t 25)) .no, .mk (some 27) (some (24, true)) (.len false (.t 26)) .no, .mk (some 28) (some (24, true)) (.bin .eql (.t 27) (.n 0)) .no, .i 29 (.pick (.t 24) (.t 28) (.c (.one (.st (.bool false))))), .m 8 29]) .ret) .skip)) (.seq (.ops [.m 30 1, .i 31 (.bin .eql (.t 30) (.n 0)), .m 32 31, .mk (some 33) (some (32, true)) (.load true 3 (.t 4)) .no, .mk (some 34) (some (32, true)) (.load true 3 (.t 6)) .no, .mk (some 35) (some (32, true)) (.call 44 [.t 33, .t 34]) .no, .i 36 (.pick (.t 32) (.t 35) (.c (.one (.st (.bool false))))), .m 8 36]) .ret)))
theorem ok_L_lam2 : OkF Tryd.prog 27 37 [] ir_L_lam2 [.t 8] := .of Tryd.func27 rfl rfl (by kernel_rfl) rfl
def ir_L_hugeLam : IR :=
  (.seq (.ops [.i 1 (.box 24 (.t 0)), .i 2 (.mov (.c (.one (.st (.bool false)))))]) (.seq (.ops [.L 3 3 1, .i 4 (.call 15 [.t 3, .n 3000]), .i 5 (.bin .gtr (.t 4) (.n 3000)), .m 2 5]) .ret))
theorem ok_L_hugeLam : OkF Tryd.prog 5 6 [] ir_L_hugeLam [.t 2] := .of Tryd.func5 rfl rfl (by kernel_rfl) rfl
def ir_L_LambdaPuts : IR :=
  (.seq (.ops [.i 3 (.box 24 (.t 0)), .i 4 (.box 24 (.t 1)), .i 6 (.mov (.c (.one (.st (.bool false)))))]) (.seq (.seq (.ops [.L 11 3 3, .i 12 (.call 5 [.t 11]), .m 13 12, .mk (some 14) (some (13, false)) (.load true 3 (.t 4)) .no, .mk (some 15) (some (13, false)) (.call 5 [.t 14]) .no, .i 16 (.pick (.t 13) (.c (.one (.st (.bool true)))) (.t 15))]) (.cond (.t 16) (.seq (.ops [.i 6 (.mov (.c (.one (.st (.bool true)))))]) .ret) .skip)) (.seq (.ops [.i 7 (.mov (.n 0))]) (.seq (.seq (.ops [.m 17 2, .i 18 (.bin .lss (.t 17) (.n 0)), .m 19 18, .mk (some 20) (some (19, false)) (.mov (.t 2)) .no, .mk (some 21) (some (19, false)) (.bin .geq (.t 20) (.n 40)) .no, .i 22 (.pick (.t 19) (.c (.one (.st (.bool true)))) (.t 21))]) (.cond (.t 22) (.ops [.i 7 (.mov (.n 10))]) .skip)) (.seq (.seq (.ops [.m 23 7, .i 24 (.bin .eql (.t 23) (.n 0))]) (.cond (.t 24) (.ops [.L 25 3 3, .m 26 2, .i 27 (.bin .add (.t 26) (.n 1)), .i 28 (.call 7 [.t 25, .t 27, .n 0]), .m 7 28]) .skip)) (.seq (.seq (.ops [.m 29 7, .i 30 (.bin .eql (.t 29) (.n 0))]) (.cond (.t 30) (.ops [.L 31 3 4, .m 32 2, .i 33 (.call 7 [.t 31, .t 32, .n 0]), .m 7 33]) .skip)) (.seq (.ops [.i 34 (.build [.st (.int .i64 0), .st (.int .i64 0), .full []] []), .i 8 (.alloc 24 [.st (.int .i64 0), .st (.int .i64 0), .full []]), .s 3 8 34]) (.seq (.seq (.ops [.m 35 7, .i 36 (.bin .eql (.t 35) (.n 0))]) (.cond (.t 36) (.seq (.ops [.L 37 3 3, .L 38 3 4, .i 39 (.call 25 [.t 37, .t 38]), .s 3 8 39]) (.seq (.ops [.L 40 3 8, .i 41 (.call 15 [.t 40, .n 2000]), .i 42 (.bin .gtr (.t 41) (.n 2000))]) (.cond (.t 42) (.ops [.i 7 (.mov (.n 8))]) .skip))) .skip)) (.seq (.ops [.L 44 3 3, .L 45 3 4, .m 46 2, .i 47 (.call 26 [.t 44, .t 45, .t 46]), .m 43 47, .i 48 (.extract 0 (.t 43)), .i 49 (.extract 1 (.t 43)), .i 9 (.alloc 24 [.st (.int .i64 0), .st (.int .i64 0), .full []]), .s 3 9 48, .m 10 49]) (.seq (.ops [.L 50 3 9, .m 51 10, .L 52 3 8, .m 53 7, .i 54 (.call 27 [.t 50, .t 51, .t 52, .t 53]), .m 6 54]) .ret))))))))))
theorem ok_L_LambdaPuts : OkF Tryd.prog 14 55 [] ir_L_LambdaPuts [.t 6] := .of Tryd.func14 rfl rfl (by kernel_rfl) rfl

theorem lwithin_a (t : Lm) (m : Int) (h0 : 0 ≤ m) (h1 : m ≤ 9223372036854775807) : ACalls Tryd.prog 32 [aLm t, aInt m] (aInt (lessBy t.size m)) := by
  induction h : SizeOf.sizeOf t using Nat.strongRecOn generalizing t m with
  | _ N ih =>
  subst h
  have hs := Lm.size_eq t
  refine ok_lambda_within.ac fun C hC => ?_
  unfold ir_lambda_within
  refine IWP.learn 0 (by omega) fun hkn => ?_
  have hkn := (known_lm hkn).2.2
  repeat' (first | (with_reducible first | refine W ?_ | refine Wz0 ?_) | ((with_reducible first | refine Wo (fun K hK => ?_) | refine Wq ?_ | refine Wr ?_); (try simp only [go_sem, fN, seval, eT, iR]); (repeat with_reducible refine Ai ?_); (try (refine hK _ ?_; clear hK K))))
  refine IWP.loopD [6] (fun n s => ∃ k, k ≤ t.subs.length ∧ n = t.subs.length - k ∧ s.env 1 = aInt (lessBy (1 + Lm.sizes (t.subs.take k)) m) ∧ s.env 10 = .one (.st (.list (t.subs.map encL))) ∧ s.env 11 = aInt t.subs.length ∧ s.env 12 = aInt k ∧ s.S 6 = none) t.subs.length ⟨0, Nat.zero_le _, rfl, by
    simp only [go_sem, fN, seval, eT, iR]
    rw [lessBy]
    have z0 : Lm.sizes [] = 0 := rfl
    congr 3
    split <;> omega, rfl, rfl, rfl, rfl⟩ ?_
  rintro n ⟨env, S⟩ ⟨k, hk, rfl, e1, e10, e11, e12, s6⟩
  simp only at e1 e10 e11 e12 s6
  repeat' (first | (with_reducible first | refine W ?_ | refine Wz0 ?_) | ((with_reducible first | refine Wo (fun K hK => ?_) | refine Wq ?_ | refine Wr ?_); (try simp only [go_sem, fN, seval, eT, iR, e1, e10, e11, e12, s6]); (repeat with_reducible refine Ai ?_); (try (refine hK _ ?_; clear hK K))))
  with_reducible refine Wp ?_
  simp only [go_sem, fN, seval, true_implies, false_implies, implies_true, dT, dF, nL, e1, e10, e11, e12, s6]
  (try with_reducible refine iC ?_)
  refine ⟨fun hlt => ?_, fun hge => ?_⟩
  · obtain ⟨a, ha⟩ := get_lt (show k < t.subs.length by omega)
    have z1 := Lm.sizes_take ha
    have z2 := Lm.sizes_take_le t.subs (k + 1)
    have z3 := Lm.length_le t.subs
    have z4 := lessBy_le (1 + Lm.sizes (t.subs.take k)) m h0
    repeat' (first | (with_reducible first | refine W ?_ | refine Wz0 ?_) | ((with_reducible first | refine Wo (fun K hK => ?_) | refine Wq ?_ | refine Wr ?_); (try simp only [go_sem, fN, seval, eT, iR, e1, e10, e11, e12, s6, ha]); (repeat with_reducible refine Ai ?_); (try (refine hK _ ?_; clear hK K))))
    with_reducible refine Wp ?_
    simp only [go_sem, fN, seval, true_implies, false_implies, implies_true, dT, dF, nL, e1]
    (try with_reducible refine iC ?_)
    refine ⟨fun hb => ?_, fun hb => ?_⟩
    · repeat' (first | (with_reducible first | refine W ?_ | refine Wz0 ?_) | ((with_reducible first | refine Wo (fun K hK => ?_) | refine Wq ?_ | refine Wr ?_); (try simp only [go_sem, fN, seval, eT, iR, e1]); (repeat with_reducible refine Ai ?_); (try (refine hK _ ?_; clear hK K))))
      simp only [go_sem, fN, seval, FinQ, AS.result, resAll, resOne, tupV, e1]
      rw [lessBy_neg hb (show _ ≤ t.size by rw [hs]; omega)]
    · repeat' (first | (with_reducible first | refine W ?_ | refine Wz0 ?_) | refine Cg _ (ih _ (Lm.lt_of_sub (mem_of_get ha)) a _ (by omega) (by omega) rfl) ?_ | ((with_reducible first | refine Wo (fun K hK => ?_) | refine Wq ?_ | refine Wr ?_); (try simp only [go_sem, fN, seval, eT, iR, e1, e10, e11, e12, s6, ha]); (repeat with_reducible refine Ai ?_); (try (refine hK _ ?_; clear hK K))))
      refine then_normal ⟨t.subs.length - (k + 1), by omega, k + 1, by omega, rfl, ?_⟩
      simp only [go_sem, fN, seval, AS.drop, dropS, AC.clears, AC.clear, AC.highs, AC.high, Bool.not_false, Bool.true_and, Bool.and_self, AV.purge, AV.purges, AC.purge, ABlk.purge, List.contains_cons, List.contains_nil, Nat.reduceBEq, Bool.or_self, Bool.or_false, Bool.false_or, Bool.or_true, eT, iR, e1, e10, e11, e12, s6]
      exact ⟨by rw [lessBy_step (by omega), z1]; congr 4; omega, by congr 3⟩
  · repeat' (first | (with_reducible first | refine W ?_ | refine Wz0 ?_) | ((with_reducible first | refine Wo (fun K hK => ?_) | refine Wq ?_ | refine Wr ?_); (try simp only [go_sem, fN, seval, eT, iR, e1]); (repeat with_reducible refine Ai ?_); (try (refine hK _ ?_; clear hK K))))
    simp only [go_sem, fN, seval, FinQ, AS.result, resAll, resOne, tupV, e1]
    rw [List.take_of_length_le (by omega), hs]
theorem lsize_a (t : Lm) (hz : t.size ≤ 1000000000) : ACalls Tryd.prog 43 [aLm t] (aInt t.size) := by
  induction h : SizeOf.sizeOf t using Nat.strongRecOn generalizing t with
  | _ N ih =>
  subst h
  have hs := Lm.size_eq t
  have hkn := Lm.length_le t.subs
  refine ok_lambda_Size.ac fun C hC => ?_
  unfold ir_lambda_Size
  repeat' (first | (with_reducible first | refine W ?_ | refine Wz0 ?_) | ((with_reducible first | refine Wo (fun K hK => ?_) | refine Wq ?_ | refine Wr ?_); (try simp only [go_sem, fN, seval, eT, iR]); (repeat with_reducible refine Ai ?_); (try (refine hK _ ?_; clear hK K))))
  refine IWP.loopD [5] (fun n s => ∃ k, k ≤ t.subs.length ∧ n = t.subs.length - k ∧ s.env 3 = aInt ((1 + Lm.sizes (t.subs.take k) : Nat)) ∧ s.env 7 = .one (.st (.list (t.subs.map encL))) ∧ s.env 8 = aInt t.subs.length ∧ s.env 9 = aInt k ∧ s.S 5 = none) t.subs.length ⟨0, Nat.zero_le _, rfl, rfl, rfl, rfl, rfl, rfl⟩ ?_
  rintro n ⟨env, S⟩ ⟨k, hk, rfl, e3, e7, e8, e9, s5⟩
  simp only at e3 e7 e8 e9 s5
  repeat' (first | (with_reducible first | refine W ?_ | refine Wz0 ?_) | ((with_reducible first | refine Wo (fun K hK => ?_) | refine Wq ?_ | refine Wr ?_); (try simp only [go_sem, fN, seval, eT, iR, e3, e7, e8, e9, s5]); (repeat with_reducible refine Ai ?_); (try (refine hK _ ?_; clear hK K))))
  with_reducible refine Wp ?_
  simp only [go_sem, fN, seval, true_implies, false_implies, implies_true, dT, dF, nL, e3, e7, e8, e9, s5]
  (try with_reducible refine iC ?_)
  refine ⟨fun hlt => ?_, fun hge => ?_⟩
  · obtain ⟨a, ha⟩ := get_lt (show k < t.subs.length by omega)
    have z1 := Lm.sizes_take ha
    have z2 := Lm.sizes_take_le t.subs (k + 1)
    have z3 := Lm.size_mem (mem_of_get ha)
    repeat' (first | (with_reducible first | refine W ?_ | refine Wz0 ?_) | refine Cg _ (ih _ (Lm.lt_of_sub (mem_of_get ha)) a (by omega) rfl) ?_ | ((with_reducible first | refine Wo (fun K hK => ?_) | refine Wq ?_ | refine Wr ?_); (try simp only [go_sem, fN, seval, eT, iR, e3, e7, e8, e9, s5, ha]); (repeat with_reducible refine Ai ?_); (try (refine hK _ ?_; clear hK K))))
    refine then_normal ⟨t.subs.length - (k + 1), by omega, k + 1, by omega, rfl, ?_⟩
    simp only [go_sem, fN, seval, AS.drop, dropS, AC.clears, AC.clear, AC.highs, AC.high, Bool.not_false, Bool.true_and, Bool.and_self, AV.purge, AV.purges, AC.purge, ABlk.purge, List.contains_cons, List.contains_nil, Nat.reduceBEq, Bool.or_self, Bool.or_false, Bool.false_or, Bool.or_true, eT, iR, e3, e7, e8, e9, s5]
    exact ⟨by rw [z1]; congr 3; omega, by congr 3⟩
  · repeat' (first | (with_reducible first | refine W ?_ | refine Wz0 ?_) | ((with_reducible first | refine Wo (fun K hK => ?_) | refine Wq ?_ | refine Wr ?_); (try simp only [go_sem, fN, seval, eT, iR, e3]); (repeat with_reducible refine Ai ?_); (try (refine hK _ ?_; clear hK K))))
    simp only [go_sem, fN, seval, FinQ, AS.result, resAll, resOne, tupV, e3]
    rw [List.take_of_length_le (by omega), hs]
theorem lsizeR_a (t : Lm) (m : Int) (h0 : 0 ≤ m) (h1 : m ≤ 9223372036854775806) : ACalls Tryd.prog 15 [aLm t, aInt m] (aInt (capTo t.size m)) := by
  induction h : SizeOf.sizeOf t using Nat.strongRecOn generalizing t m with
  | _ N ih =>
  subst h
  have hs := Lm.size_eq t
  refine ok_R_LamSize.ac fun C hC => ?_
  unfold ir_R_LamSize
  refine IWP.learn 0 (by omega) fun hkn => ?_
  have hkn := (known_lm hkn).2.2
  repeat' (first | (with_reducible first | refine W ?_ | refine Wz0 ?_) | ((with_reducible first | refine Wo (fun K hK => ?_) | refine Wq ?_ | refine Wr ?_); (try simp only [go_sem, fN, seval, eT, iR]); (repeat with_reducible refine Ai ?_); (try (refine hK _ ?_; clear hK K))))
  refine IWP.loop (fun n s => ∃ k, k ≤ t.subs.length ∧ n = t.subs.length - k ∧ s.env 5 = aInt (capTo (1 + Lm.sizes (t.subs.take k)) m) ∧ s.env 1 = aInt m ∧ s.env 2 = .one (.ptr 2 1 0 0) ∧ s.env 6 = aInt k ∧ s.S 2 = some (.box 24 [.st (.int .i64 t.kind), .st (.int .i64 t.idx), .st (.list (t.subs.map encL))])) t.subs.length ⟨0, Nat.zero_le _, rfl, by
    simp only [go_sem, fN, seval, eT, iR]
    rw [capTo]
    have z0 : Lm.sizes [] = 0 := rfl
    congr 3
    split <;> omega, rfl, rfl, rfl, rfl⟩ ?_
  rintro n ⟨env, S⟩ ⟨k, hk, rfl, e5, e1, e2, e6, s2⟩
  simp only at e5 e1 e2 e6 s2
  have z4 := capTo_le (1 + Lm.sizes (t.subs.take k)) m h0
  by_cases hlt : (k : Int) < t.subs.length
  · obtain ⟨a, ha⟩ := get_lt (show k < t.subs.length by omega)
    have z1 := Lm.sizes_take ha
    have z2 := Lm.sizes_take_le t.subs (k + 1)
    by_cases hb : m < capTo (1 + Lm.sizes (t.subs.take k)) m
    · have hb' : ¬ capTo (1 + Lm.sizes (t.subs.take k)) m ≤ m := by omega
      repeat' (first | (with_reducible first | refine W ?_ | refine Wz0 ?_) | ((with_reducible first | refine Wo (fun K hK => ?_) | refine Wq ?_ | refine Wr ?_); (try simp only [go_sem, fN, seval, eT, iR, e5, e1, e2, e6, s2, hlt, hb']); (repeat with_reducible refine Ai ?_); (try (refine hK _ ?_; clear hK K))))
      with_reducible refine Wp ?_
      simp only [go_sem, fN, seval, true_implies, false_implies, implies_true, dT, dF, nL, hb']
      (try with_reducible refine iC ?_)
      repeat' (first | (with_reducible first | refine W ?_ | refine Wz0 ?_) | ((with_reducible first | refine Wo (fun K hK => ?_) | refine Wq ?_ | refine Wr ?_); (try simp only [go_sem, fN, seval, eT, iR, e5, e1, e2, e6, s2]); (repeat with_reducible refine Ai ?_); (try (refine hK _ ?_; clear hK K))))
      with_reducible refine Wp ?_
      simp only [go_sem, fN, seval, true_implies, false_implies, implies_true, dT, dF, nL, hb]
      (try with_reducible refine iC ?_)
      repeat' (first | (with_reducible first | refine W ?_ | refine Wz0 ?_) | ((with_reducible first | refine Wo (fun K hK => ?_) | refine Wq ?_ | refine Wr ?_); (try simp only [go_sem, fN, seval, eT, iR, e1]); (repeat with_reducible refine Ai ?_); (try (refine hK _ ?_; clear hK K))))
      simp only [go_sem, fN, seval, FinQ, AS.result, resAll, resOne, tupV]
      rw [capTo_over hb (show _ ≤ t.size by rw [hs]; omega)]
    · have hb' : capTo (1 + Lm.sizes (t.subs.take k)) m ≤ m := by omega
      obtain ⟨b1, b2⟩ := capTo_in hb
      repeat' (first | (with_reducible first | refine W ?_ | refine Wz0 ?_) | ((with_reducible first | refine Wo (fun K hK => ?_) | refine Wq ?_ | refine Wr ?_); (try simp only [go_sem, fN, seval, eT, iR, e5, e1, e2, e6, s2, hlt, hb']); (repeat with_reducible refine Ai ?_); (try (refine hK _ ?_; clear hK K))))
      with_reducible refine Wp ?_
      simp only [go_sem, fN, seval, true_implies, false_implies, implies_true, dT, dF, nL, hb']
      (try with_reducible refine iC ?_)
      repeat' (first | (with_reducible first | refine W ?_ | refine Wz0 ?_) | ((with_reducible first | refine Wo (fun K hK => ?_) | refine Wq ?_ | refine Wr ?_); (try simp only [go_sem, fN, seval, eT, iR, e5, e1, e2, e6, s2, ha]); (repeat with_reducible refine Ai ?_); (try (refine hK _ ?_; clear hK K))))
      refine ⟨_, ih _ (Lm.lt_of_sub (mem_of_get ha)) a (m - capTo (1 + Lm.sizes (t.subs.take k)) m) (by omega) (by omega) rfl, ?_⟩
      have z5 := capTo_le a.size (m - capTo (1 + Lm.sizes (t.subs.take k)) m) (by omega)
      repeat' (first | (with_reducible first | refine W ?_ | refine Wz0 ?_) | ((with_reducible first | refine Wo (fun K hK => ?_) | refine Wq ?_ | refine Wr ?_); (try simp only [go_sem, fN, seval, eT, iR, e5, e1, e2, e6, s2]); (repeat with_reducible refine Ai ?_); (try (refine hK _ ?_; clear hK K))))
      refine then_normal ⟨t.subs.length - (k + 1), by omega, k + 1, by omega, rfl, ?_⟩
      simp only [go_sem, fN, seval, eT, iR, e5, e1, e2, e6, s2]
      exact ⟨by rw [b1, capTo_step b2, z1]; congr 4; omega, by congr 3⟩
  · repeat' (first | (with_reducible first | refine W ?_ | refine Wz0 ?_) | ((with_reducible first | refine Wo (fun K hK => ?_) | refine Wq ?_ | refine Wr ?_); (try simp only [go_sem, fN, seval, eT, iR, e5, e1, e2, e6, s2, hlt]); (repeat with_reducible refine Ai ?_); (try (refine hK _ ?_; clear hK K))))
    with_reducible refine Wp ?_
    simp only [go_sem, fN, seval, true_implies, false_implies, implies_true, dT, dF, nL]
    (try with_reducible refine iC ?_)
    have hfull : 1 + Lm.sizes (t.subs.take k) = t.size := by rw [List.take_of_length_le (by omega), hs]
    rw [hfull] at e5 z4
    repeat' (first | (with_reducible first | refine W ?_ | refine Wz0 ?_) | ((with_reducible first | refine Wo (fun K hK => ?_) | refine Wq ?_ | refine Wr ?_); (try simp only [go_sem, fN, seval, eT, iR, e5, e1]); (repeat with_reducible refine Ai ?_); (try (refine hK _ ?_; clear hK K))))
    by_cases hb : m < capTo t.size m
    · with_reducible refine Wp ?_
      simp only [go_sem, fN, seval, true_implies, false_implies, implies_true, dT, dF, nL, hb]
      (try with_reducible refine iC ?_)
      repeat' (first | (with_reducible first | refine W ?_ | refine Wz0 ?_) | ((with_reducible first | refine Wo (fun K hK => ?_) | refine Wq ?_ | refine Wr ?_); (try simp only [go_sem, fN, seval, eT, iR, e1]); (repeat with_reducible refine Ai ?_); (try (refine hK _ ?_; clear hK K))))
      simp only [go_sem, fN, seval, FinQ, AS.result, resAll, resOne, tupV]
      rw [capTo_over hb (Nat.le_refl _)]
    · with_reducible refine Wp ?_
      simp only [go_sem, fN, seval, true_implies, false_implies, implies_true, dT, dF, nL, hb]
      (try with_reducible refine iC ?_)
      repeat' (first | (with_reducible first | refine W ?_ | refine Wz0 ?_) | ((with_reducible first | refine Wo (fun K hK => ?_) | refine Wq ?_ | refine Wr ?_); (try simp only [go_sem, fN, seval, eT, iR, e5]); (repeat with_reducible refine Ai ?_); (try (refine hK _ ?_; clear hK K))))
      simp only [go_sem, fN, seval, FinQ, AS.result, resAll, resOne, tupV, e5]
theorem kinds_of {k : Int} (h : 1 ≤ k ∧ k ≤ 5) : k = 1 ∨ k = 2 ∨ k = 3 ∨ k = 4 ∨ k = 5 := by omega
set_option maxHeartbeats 1000000 in
theorem lcheck_a (t : Lm) (u m : Int) (hu : 0 ≤ u) (hz : u + t.size ≤ 1000000000) : ACalls Tryd.prog 33 [aLm t, aInt u, aInt m] (aInt (t.chk m u)) := by
  induction h : SizeOf.sizeOf t using Nat.strongRecOn generalizing t u with
  | _ N ih =>
  subst h
  have hs := Lm.size_eq t
  have hlen := Lm.length_le t.subs
  refine ok_lambda_check.ac fun C hC => ?_
  unfold ir_lambda_check
  by_cases hk : 1 ≤ t.kind ∧ t.kind ≤ 5
  case neg =>
    rw [Lm.chk_eq, if_neg (fun h => hk ⟨h.1, h.2.1⟩)]
    by_cases h1 : t.kind < 1
    · repeat' (first | (with_reducible first | refine W ?_ | refine Wz0 ?_) | ((with_reducible first | refine Wo (fun K hK => ?_) | refine Wp ?_ | refine Wq ?_ | refine Wr ?_); (try simp only [go_sem, fN, seval, eT, iR, h1, dT, dF, nL]); (repeat with_reducible refine Ai ?_); (try (refine hK _ ?_; clear hK K)); (try with_reducible refine iC ?_)))
      simp only [go_sem, fN, seval, FinQ, AS.result, resAll, resOne, tupV]
    · have h5 : 5 < t.kind := by omega
      repeat' (first | (with_reducible first | refine W ?_ | refine Wz0 ?_) | ((with_reducible first | refine Wo (fun K hK => ?_) | refine Wp ?_ | refine Wq ?_ | refine Wr ?_); (try simp only [go_sem, fN, seval, eT, iR, h1, h5, dT, dF, nL]); (repeat with_reducible refine Ai ?_); (try (refine hK _ ?_; clear hK K)); (try with_reducible refine iC ?_)))
      simp only [go_sem, fN, seval, FinQ, AS.result, resAll, resOne, tupV]
  case pos =>
  have hk5 := kinds_of hk
  have q1 : ¬ t.kind < 1 := by omega
  have q5 : ¬ 5 < t.kind := by omega
  by_cases hl : (t.subs.length : Int) = nSubs t.kind
  case neg =>
    rw [Lm.chk_eq, if_neg (fun h => hl h.2.2)]
    rcases hk5 with hk5 | hk5 | hk5 | hk5 | hk5
    all_goals
      simp only [hk5, nSubs, Int.reduceEq, ↓reduceIte] at hl
      repeat' (first | (with_reducible first | refine W ?_ | refine Wz0 ?_) | ((with_reducible first | refine Wo (fun K hK => ?_) | refine Wp ?_ | refine Wq ?_ | refine Wr ?_); (try simp only [go_sem, fN, seval, eT, iR, hk5, hl, dT, dF, nL]); (repeat with_reducible refine Ai ?_); (try (refine hK _ ?_; clear hK K)); (try with_reducible refine iC ?_)))
      simp only [go_sem, fN, seval, FinQ, AS.result, resAll, resOne, tupV]
  case pos =>
  by_cases h0 : t.idx < 0
  case pos =>
    rw [Lm.chk_eq, if_pos ⟨hk.1, hk.2, hl⟩, if_neg (fun h => by omega)]
    rcases hk5 with hk5 | hk5 | hk5 | hk5 | hk5
    all_goals
      simp only [hk5, nSubs, Int.reduceEq, ↓reduceIte] at hl
      repeat' (first | (with_reducible first | refine W ?_ | refine Wz0 ?_) | ((with_reducible first | refine Wo (fun K hK => ?_) | refine Wp ?_ | refine Wq ?_ | refine Wr ?_); (try simp only [go_sem, fN, seval, eT, iR, hk5, hl, h0, dT, dF, nL]); (repeat with_reducible refine Ai ?_); (try (refine hK _ ?_; clear hK K)); (try with_reducible refine iC ?_)))
      simp only [go_sem, fN, seval, FinQ, AS.result, resAll, resOne, tupV]
  case neg =>
  by_cases hm : mostIdx t.kind u m ≤ t.idx
  case pos =>
    rw [Lm.chk_eq, if_pos ⟨hk.1, hk.2, hl⟩, if_neg (fun h => by omega)]
    rcases hk5 with hk5 | hk5 | hk5 | hk5 | hk5
    all_goals
      simp only [hk5, nSubs, mostIdx, Int.reduceEq, ↓reduceIte] at hl hm
      repeat' (first | (with_reducible first | refine W ?_ | refine Wz0 ?_) | ((with_reducible first | refine Wo (fun K hK => ?_) | refine Wp ?_ | refine Wq ?_ | refine Wr ?_); (try simp only [go_sem, fN, seval, eT, iR, hk5, hl, h0, hm, dT, dF, nL]); (repeat with_reducible refine Ai ?_); (try (refine hK _ ?_; clear hK K)); (try with_reducible refine iC ?_)))
      simp only [go_sem, fN, seval, FinQ, AS.result, resAll, resOne, tupV]
  case neg =>
  rw [Lm.chk_eq, if_pos ⟨hk.1, hk.2, hl⟩, if_pos (by omega)]
  rcases hk5 with hk5 | hk5 | hk5 | hk5 | hk5
  all_goals
    simp only [hk5, nSubs, mostIdx, Int.reduceEq, ↓reduceIte] at hl hm
    repeat' (first | (with_reducible first | refine W ?_ | refine Wz0 ?_) | ((with_reducible first | refine Wo (fun K hK => ?_) | refine Wp ?_ | refine Wq ?_ | refine Wr ?_); (try simp only [go_sem, fN, seval, eT, iR, hk5, hl, h0, hm, dT, dF, nL]); (repeat with_reducible refine Ai ?_); (try (refine hK _ ?_; clear hK K)); (try with_reducible refine iC ?_)))
    refine IWP.loopD [9] (fun n s => ∃ k, k ≤ t.subs.length ∧ n = t.subs.length - k ∧ Lm.chks m (t.subs.take k) (under t.kind u) = 0 ∧ s.env 1 = aInt (under t.kind u) ∧ s.env 2 = aInt m ∧ s.env 54 = .one (.st (.list (t.subs.map encL))) ∧ s.env 55 = aInt t.subs.length ∧ s.env 56 = aInt k ∧ s.S 9 = none) t.subs.length ⟨0, Nat.zero_le _, rfl, rfl, by simp only [hk5, under]; rfl, rfl, rfl, by simp only [go_sem, fN, seval, eT, iR, hl], rfl, rfl⟩ ?_
    rintro n ⟨env, S⟩ ⟨k, hk', rfl, hc, e1, e2, e54, e55, e56, s9⟩
    simp only at e1 e2 e54 e55 e56 s9
    by_cases hlt : (k : Int) < t.subs.length
    · obtain ⟨a, ha⟩ := get_lt (show k < t.subs.length by omega)
      have z3 := Lm.size_mem (mem_of_get ha)
      have hu2 : under t.kind u ≤ u + 1 ∧ 0 ≤ under t.kind u := by unfold under; split <;> omega
      repeat' (first | (with_reducible first | refine W ?_ | refine Wz0 ?_) | ((with_reducible first | refine Wo (fun K hK => ?_) | refine Wp ?_ | refine Wq ?_ | refine Wr ?_); (try simp only [go_sem, fN, seval, eT, iR, e1, e2, e54, e55, e56, s9, ha, hlt, dT, dF, nL]); (repeat with_reducible refine Ai ?_); (try (refine hK _ ?_; clear hK K)); (try with_reducible refine iC ?_)))
      refine ⟨_, ih _ (Lm.lt_of_sub (mem_of_get ha)) a (under t.kind u) hu2.2 (by omega) rfl, ?_⟩
      by_cases hr : a.chk m (under t.kind u) = 0
      · repeat' (first | (with_reducible first | refine W ?_ | refine Wz0 ?_) | ((with_reducible first | refine Wo (fun K hK => ?_) | refine Wp ?_ | refine Wq ?_ | refine Wr ?_); (try simp only [go_sem, fN, seval, eT, iR, e1, e2, e54, e55, e56, s9, hr, dT, dF, nL]); (repeat with_reducible refine Ai ?_); (try (refine hK _ ?_; clear hK K)); (try with_reducible refine iC ?_)))
        refine then_normal ⟨t.subs.length - (k + 1), by omega, k + 1, by omega, rfl, ?_⟩
        simp only [go_sem, fN, seval, AS.drop, dropS, AC.clears, AC.clear, AC.highs, AC.high, Bool.not_false, Bool.true_and, Bool.and_self, AV.purge, AV.purges, AC.purge, ABlk.purge, List.contains_cons, List.contains_nil, Nat.reduceBEq, Bool.or_self, Bool.or_false, Bool.false_or, Bool.or_true, eT, iR, e1, e2, e54, e55, e56, s9]
        exact ⟨by rw [Lm.chks_take ha hc, hr], by congr 3⟩
      · repeat' (first | (with_reducible first | refine W ?_ | refine Wz0 ?_) | ((with_reducible first | refine Wo (fun K hK => ?_) | refine Wp ?_ | refine Wq ?_ | refine Wr ?_); (try simp only [go_sem, fN, seval, eT, iR, e1, e2, e54, e55, e56, s9, hr, dT, dF, nL]); (repeat with_reducible refine Ai ?_); (try (refine hK _ ?_; clear hK K)); (try with_reducible refine iC ?_)))
        simp only [go_sem, fN, seval, FinQ, AS.result, resAll, resOne, tupV]
        simp only [hk5] at hc hr ⊢
        rw [Lm.chks_bad (k := k + 1) (by rw [Lm.chks_take ha hc]; exact hr), Lm.chks_take ha hc]
    · repeat' (first | (with_reducible first | refine W ?_ | refine Wz0 ?_) | ((with_reducible first | refine Wo (fun K hK => ?_) | refine Wp ?_ | refine Wq ?_ | refine Wr ?_); (try simp only [go_sem, fN, seval, eT, iR, e1, e2, e54, e55, e56, s9, hlt, dT, dF, nL]); (repeat with_reducible refine Ai ?_); (try (refine hK _ ?_; clear hK K)); (try with_reducible refine iC ?_)))
      simp only [go_sem, fN, seval, FinQ, AS.result, resAll, resOne, tupV]
      rw [List.take_of_length_le (by omega)] at hc
      simp only [hk5] at hc ⊢
      rw [hc]
theorem lessBy_neg_iff {s : Nat} {m : Int} (h : 0 ≤ m) : lessBy s m < 0 ↔ m < s := by
  unfold lessBy
  split <;> omega
theorem lcheckWith_a (t : Lm) (u m : Int) : ACalls Tryd.prog 21 [aLm t, aInt u, aInt m] (aInt (t.may m u)) := by
  refine ok_lambda_CheckWith.ac fun C hC => ?_
  unfold ir_lambda_CheckWith
  unfold Lm.may
  by_cases h0 : u < 0
  · rw [if_pos (Or.inl h0)]
    repeat' (first | (with_reducible first | refine W ?_ | refine Wz0 ?_) | ((with_reducible first | refine Wo (fun K hK => ?_) | refine Wp ?_ | refine Wq ?_ | refine Wr ?_); (try simp only [go_sem, fN, seval, eT, iR, h0, dT, dF, nL]); (repeat with_reducible refine Ai ?_); (try (refine hK _ ?_; clear hK K)); (try with_reducible refine iC ?_)))
    simp only [go_sem, fN, seval, FinQ, AS.result, resAll, resOne, tupV]
  by_cases h1 : 40 < u
  · rw [if_pos (Or.inr h1)]
    repeat' (first | (with_reducible first | refine W ?_ | refine Wz0 ?_) | ((with_reducible first | refine Wo (fun K hK => ?_) | refine Wp ?_ | refine Wq ?_ | refine Wr ?_); (try simp only [go_sem, fN, seval, eT, iR, h0, h1, dT, dF, nL]); (repeat with_reducible refine Ai ?_); (try (refine hK _ ?_; clear hK K)); (try with_reducible refine iC ?_)))
    simp only [go_sem, fN, seval, FinQ, AS.result, resAll, resOne, tupV]
  rw [if_neg (by omega)]
  have hw := @lessBy_neg_iff t.size 200 (by decide)
  by_cases hz : 200 < t.size
  · have hz' := hw.2 (by omega)
    rw [if_pos hz]
    repeat' (first | (with_reducible first | refine W ?_ | refine Wz0 ?_) | refine Cg _ (lwithin_a t 200 (by decide) (by decide)) ?_ | ((with_reducible first | refine Wo (fun K hK => ?_) | refine Wp ?_ | refine Wq ?_ | refine Wr ?_); (try simp only [go_sem, fN, seval, eT, iR, h0, h1, hz', dT, dF, nL]); (repeat with_reducible refine Ai ?_); (try (refine hK _ ?_; clear hK K)); (try with_reducible refine iC ?_)))
    simp only [go_sem, fN, seval, FinQ, AS.result, resAll, resOne, tupV]
  · have hz' : ¬ lessBy t.size 200 < 0 := fun h => hz (by have := hw.1 h; omega)
    rw [if_neg hz]
    repeat' (first | (with_reducible first | refine W ?_ | refine Wz0 ?_) | refine Cg _ (lwithin_a t 200 (by decide) (by decide)) ?_ | refine Cg _ (lcheck_a t u m (by omega) (by omega)) ?_ | ((with_reducible first | refine Wo (fun K hK => ?_) | refine Wp ?_ | refine Wq ?_ | refine Wr ?_); (try simp only [go_sem, fN, seval, eT, iR, h0, h1, hz', dT, dF, nL]); (repeat with_reducible refine Ai ?_); (try (refine hK _ ?_; clear hK K)); (try with_reducible refine iC ?_)))
    simp only [go_sem, fN, seval, FinQ, AS.result, resAll, resOne, tupV]
theorem lCheck_a (t : Lm) (u : Int) : ACalls Tryd.prog 10 [aLm t, aInt u] (aInt (t.may 0 u)) := by
  refine ok_lambda_Check.ac fun C hC => ?_
  unfold ir_lambda_Check
  repeat' (first | (with_reducible first | refine W ?_ | refine Wz0 ?_) | refine Cg _ (lcheckWith_a t u 0) ?_ | ((with_reducible first | refine Wo (fun K hK => ?_) | refine Wp ?_ | refine Wq ?_ | refine Wr ?_); (try simp only [go_sem, fN, seval, eT, iR, dT, dF, nL]); (repeat with_reducible refine Ai ?_); (try (refine hK _ ?_; clear hK K)); (try with_reducible refine iC ?_)))
  simp only [go_sem, fN, seval, FinQ, AS.result, resAll, resOne, tupV]

end Go.Proofs.YtfiegbokcabhhaaDoor
