/-
  Proved: two substitutions into a lambda term commute as the substitution lemma says: the law TopSubstitution returns true; as a tied card. Conditions: none.
-/
import Derived.Test.YtadjhfokddfbiaaDoorToS8
import Derived.Lib.FrozenHead2
import Derived.Lib.OthersKept
import Derived.Shelf.Strings.BuilderK
import Derived.Test.YtadjhfokddfbiaaDoorRows
import Derived.ProofKit
import Derived.OpenShut
import Derived.JoinedCond
import Derived.Deep.Slices
import Derived.Test.YtadjhfokddfbiaaDoorTie
import Derived.Test.YtadjhfokddfbiaaDoorCards
import Derived.LaidMore
import Derived.MakeChecks
import Derived.Stop.Joined
import Derived.Lib.LaidTab
import Derived.Lib.ItoaNum
import Derived.LaidLaws
namespace Go.Proofs.YtadjhfokddfbiaaDoor
open Go Go.RowKit
set_option linter.unusedVariables false
set_option linter.unusedSimpArgs false
set_option maxHeartbeats 1000000
theorem sizeBuilderW : (Tryd.prog.info? 76).map (fun i => i.size) = some 2 := by kernel_rfl
set_option maxRecDepth 100000 in
theorem copyCheck_usedW (b : Nat) (w : World) (h0 : w.cell? ⟨b, 0, none⟩ = some (.pointer (some ⟨b, 0, none⟩))) :
    Calls Tryd.prog 66 #[.pointer (some ⟨b, 0, none⟩)] w fun e w' => e = .returned (.tuple #[]) ∧ w' = w := by
  obtain ⟨j, hj, _⟩ := Option.map_eq_some_iff.1 sizeBuilderW
  go_enter Tryd.func66, Tryd.ntmps66
  go_wp2
  rw [Lib.run_neq_ptr_same w _ Tryd.underlying73 hj]
  go_wp2
  go_end0
  exact ⟨rfl, rfl⟩
set_option maxRecDepth 100000 in
theorem copyCheck_freshW (b : Nat) (w : World) (h0 : w.cell? ⟨b, 0, none⟩ = some (.pointer none)) {ty : TypeId} {n : Nat} (hsh : w.shape? b = some (ty, n)) (hn : 0 < n) (hlies : liesAt Tryd.prog (Tryd.prog).depth ty (n / (Tryd.prog).cellsOf ty) 0 76 1 = true) (hfz : w.frozen? ⟨b, 0, none⟩ = false) :
    Calls Tryd.prog 66 #[.pointer (some ⟨b, 0, none⟩)] w fun e w' => e = .returned (.tuple #[]) ∧ w' = w.setCell ⟨b, 0, none⟩ (.pointer (some ⟨b, 0, none⟩)) := by
  obtain ⟨j, hj, hjs⟩ := Option.map_eq_some_iff.1 sizeBuilderW
  go_enter Tryd.func66, Tryd.ntmps66
  go_wp2
  rw [Lib.run_to_unsafe w ⟨b, 0, none⟩ Tryd.underlying73 Tryd.underlying102 hj (by rw [hjs]; decide) hsh hn]
  simp only [Result.andThen]
  rw [Oper.upon_value]
  go_wp2
  rw [run_callFunc_extern Tryd.func73 (by kernel_rfl) (by kernel_rfl) (by kernel_rfl) (e := Extern.AbiNoEscape.same) (by kernel_rfl)]
  rw [Lib.run_noEscape]
  simp only [Result.andThen]
  rw [Oper.upon_value]
  go_wp2
  rw [Lib.run_from_unsafe w ⟨b, 0, none⟩ Tryd.underlying102 Tryd.underlying73 hj hsh hlies]
  simp only [Result.andThen]
  rw [Oper.upon_value]
  go_wp2
  go_end0
  exact ⟨rfl, rfl⟩
def FrzW (w w' : World) (g : Nat) : Prop := w'.heap.size = w.heap.size ∧ (∀ k, k ≠ g → w'.heap[k]? = w.heap[k]?) ∧ w'.os = w.os ∧ w'.tape = w.tape ∧ w'.output = w.output ∧ ∀ cs e f, w.heap[g]? = some (.cells cs e f) → ∃ f', w'.heap[g]? = some (.cells cs e f')
theorem frzW_freeze (w : World) (g n : Nat) : FrzW w (w.drew.freeze ⟨g, 0, none⟩ n) g := by
  unfold World.freeze
  split
  · exact ⟨rfl, fun _ _ => rfl, rfl, rfl, rfl, fun cs e f h => ⟨f, h⟩⟩
  · refine ⟨by simp, fun k hk => ?_, rfl, rfl, rfl, fun cs e f h => ?_⟩
    · simp only [Array.getElem?_modify]
      rw [if_neg (fun e => hk e.symm)]
      rfl
    · obtain ⟨lo, hi⟩ := f
      have h' : w.drew.heap[g]? = some (.cells cs e (lo, hi)) := h
      refine ⟨if lo == hi then (0, 0 + n) else (min lo 0, max hi (0 + n)), ?_⟩
      simp only [Array.getElem?_modify, if_true, h', Option.map_some]
set_option maxRecDepth 100000 in
theorem builderStringW_at (b g cap : Nat) (vs : Array Value) (ty : TypeId) (cur : Array Value) (l : List UInt8) (w : World) (h0 : l ≠ []) (hbk : w.heap[b]? = some (.cells vs ty (0, 0))) (hv1 : vs[1]? = some (.slice (some ⟨g, 0, none⟩) l.length cap)) (hbg : w.heap[g]? = some (.cells cur 5 (0, 0)))
    (hcm : cap ≤ maxLen) (hnc : l.length ≤ cap) (hsz : l.length ≤ cur.size) (hcur : ∀ (j : Nat) (x : UInt8), l[j]? = some x → cur[j]? = some (Value.int .u8 (x.toNat : Int))) :
    Calls Tryd.prog 53 #[.pointer (some ⟨b, 0, none⟩)] w fun e w' => e = .returned (.string ⟨l.toArray⟩) ∧ FrzW w w' g := by
  have hl0 : l.length ≠ 0 := by simpa using h0
  have c1 : w.drew.cell? ⟨b, 1, none⟩ = some (.slice (some ⟨g, 0, none⟩) l.length cap) := by
    have : w.drew.heap[b]? = some (.cells vs ty (0, 0)) := hbk
    rw [Lib.cell_of_heap this]
    exact hv1
  have hSD : (Builtin.unsafeSliceData_ #[74] 92 #[.slice (some ⟨g, 0, none⟩) l.length cap]).run Tryd.prog w.drew = .ok (.pointer (some ⟨g, 0, none⟩)) w.drew :=
    Lib.run_unsafeSliceData_row _ _ _ _ _ _ (by omega)
  have hUS : (Builtin.unsafeString_ #[92, 3] 9 #[.pointer (some ⟨g, 0, none⟩), .int .i64 l.length]).run Tryd.prog w.drew = .ok (.string ⟨l.toArray⟩) (w.drew.freeze ⟨g, 0, none⟩ l.length) := by
    refine Lib.run_unsafeString_row w.drew 92 3 9 5 Tryd.underlying92 (by kernel_rfl) g cur.size (by have hg' : w.drew.heap[g]? = some (.cells cur 5 (0, 0)) := hbg; simp [World.shape?, hg']) l h0 (by omega) (by unfold maxLen at hcm; omega) ?_
    intro j x hx
    have hg' : w.drew.heap[g]? = some (.cells cur 5 (0, 0)) := hbg
    rw [addr_add, Nat.zero_add, cell_of_row w.drew g _ _ _ _ hg']
    exact hcur j x hx
  go_enter Tryd.func53, Tryd.ntmps53
  go_wp2
  have mixed : Tryd.prog.follows Departure.mixedOrders = true := by kernel_rfl
  go_region_o
  all_goals (go_wp2; go_ret; exact ⟨rfl, frzW_freeze w g l.length⟩)
abbrev bTW : TypeId := 76
abbrev u8W : TypeId := 5
structure BldW (ty : TypeId) (ex : List AC) (S : AStore) (a0 r : Nat) (bs : ByteArray) : Prop where
  ha : 1000 ≤ a0
  hr : 1000 ≤ r
  ne : a0 ≠ r
  hex : AC.highs ex = true
  lies : liesAt Tryd.prog (Tryd.prog).depth ty ((2 + ex.length) / (Tryd.prog).cellsOf ty) 0 bTW 1 = true
  box : ∃ p, (p = .st (.lit (.pointer none)) ∨ p = .ptr a0 1 0 0) ∧ S a0 = some (.box ty (p :: .row r bs.size :: ex))
  row : S r = some (.mrow u8W 1 (byteRow bs))
def bldWS (ty : TypeId) (ex : List AC) (S : AStore) (a0 r : Nat) (bs : ByteArray) : AStore := updE (updE S a0 (some (.box ty (.ptr a0 1 0 0 :: .row r bs.size :: ex)))) r (some (.mrow u8W 1 (byteRow bs)))
theorem ptrW_val {σ : Sto} {S : AStore} {ι : AHnd} {v : Value} {a0 : Nat} {e : TypeId} {cs : List AC} (h : VRep σ S ι v (.one (.ptr a0 1 0 0))) (hS : S a0 = some (.box e cs)) : ∃ g, (ι a0).g = some g ∧ v = .pointer (some ⟨g, 0, none⟩) := by
  have h := vrep_one h
  cases h with
  | @ptr _ _ _ _ _ b h1 h2 h3 h4 =>
    rw [hS] at h1
    cases h1
    obtain ⟨g, g1, g2⟩ := h4 rfl
    exact ⟨g, g1, by rw [g2]; rfl⟩
theorem aptrW_val {σ : Sto} {S : AStore} {ι : AHnd} {v : Value} {a0 : Nat} {e : TypeId} {cs : List AC} (h : ARep σ S ι v (.ptr a0 1 0 0)) (hS : S a0 = some (.box e cs)) : ∃ g, (ι a0).g = some g ∧ v = .pointer (some ⟨g, 0, none⟩) := ptrW_val (.one h) hS
theorem list_two_more {α : Type} {l : List α} {n : Nat} (h : l.length = 2 + n) : ∃ a b m, l = a :: b :: m := by
  match l, h with
  | [], h => simp at h; omega
  | [_], h => simp at h; omega
  | a :: b :: m, _ => exact ⟨a, b, m, rfl⟩
theorem bldW_high {ty : TypeId} {ex : List AC} {a0 r n : Nat} (ha : 1000 ≤ a0) (hr : 1000 ≤ r) (hex : AC.highs ex = true) : (ABlk.box ty (.ptr a0 1 0 0 :: .row r n :: ex)).high = true := by simp only [ABlk.high, AC.highs, AC.high, decide_eq_true ha, decide_eq_true hr, hex, Bool.and_self]
theorem copyCheckW_S {ty : TypeId} {ex : List AC} {a0 r : Nat} {bs : ByteArray} {S : AStore} (h : BldW ty ex S a0 r bs) : ACallsS Tryd.prog 66 [.one (.ptr a0 1 0 0)] S (.tup []) (updE S a0 (some (.box ty (.ptr a0 1 0 0 :: .row r bs.size :: ex)))) := by
  obtain ⟨p, hp, hSa⟩ := h.box
  refine acallsS_hand (fun hc => clean_upd hc h.ha (bldW_high h.ha h.hr h.hex)) fun hclean C σ ι vs w hn R hvs => ?_
  obtain ⟨v, rfl⟩ : ∃ v, vs = [v] := by
    have := hvs.len
    match vs, this with
    | [v], _ => exact ⟨v, rfl⟩
  have hv : VRep σ S ι v (.one (.ptr a0 1 0 0)) := by cases hvs with | cons h _ => exact h
  obtain ⟨g, hg, rfl⟩ := ptrW_val hv hSa
  have hb := R.blk a0 _ hSa
  cases hb with
  | @box _ _ g' vs k1 k2 k3 k4 k5 =>
  rw [hg] at k1
  cases k1
  obtain ⟨v0, v1, vm, hvs2⟩ := list_two_more (n := ex.length) (show vs.toList.length = 2 + ex.length by rw [k4.len]; simp; omega)
  have hsz : vs.size = 2 + ex.length := by
    have := k4.len
    simp at this
    omega
  obtain rfl : vs = (v0 :: v1 :: vm).toArray := by rw [← hvs2]
  have r0 : ARep σ S ι v0 p := by cases k4 with | cons h _ => exact h
  have r1 : All2 (ARep σ S ι) (v1 :: vm) (.row r bs.size :: ex) := by cases k4 with | cons _ h => exact h
  have c0 : w.cell? ⟨g, 0, none⟩ = some v0 := by rw [Lib.cell_of_heap k3]; rfl
  have key : ∀ w', w' = w.setRow g (.pointer (some ⟨g, 0, none⟩) :: v1 :: vm).toArray → ∃ σ' ι' env', Refs C σ' ι' ⟨env', updE S a0 (some (.box ty (.ptr a0 1 0 0 :: .row r bs.size :: ex)))⟩ { tmps := #[.pointer (some ⟨g, 0, none⟩)], defers := [] } w' ∧ VRep σ' (updE S a0 (some (.box ty (.ptr a0 1 0 0 :: .row r bs.size :: ex)))) ι' (.tuple #[]) (.tup []) := fun w' hw' => by
    subst hw'
    obtain ⟨hu, R'⟩ := R.turn (w' := w.setRow g (.pointer (some ⟨g, 0, none⟩) :: v1 :: vm).toArray) hSa (.box ty (.ptr a0 1 0 0 :: .row r bs.size :: ex)) (ι a0) (σ' := σ) (fun _ _ h => h) (fun _ _ _ => rfl) (R.fit.row k5 fun k hk => setRow_other _ _ _ _ hk) (by simp [ABlk.len]) (fun _ => ⟨rfl, rfl⟩) (setRow_frame _ _) (by simp)
      (fun k hk hne => setRow_other _ _ _ _ (fun e => hne (by rw [e]; exact hg))) (fun g h => .inl h) (fun hu => .box hg k2 (setRow_heap w _ _ _ _ _ k3) (.cons (.ptr (b := .box ty (.ptr a0 1 0 0 :: .row r bs.size :: ex)) (by simp [AS.set, updE_same]) (by simp [ABlk.len]) rfl fun _ => ⟨g, by rw [updE_same]; exact hg, by simp [ABlk.wid]⟩) (r1.mono fun _ _ x => x.mono (fun _ _ h => h) hu)) k5)
    exact ⟨σ, _, _, R', .tup (fun _ => undef) rfl (by simp) (by simp)⟩
  rcases hp with rfl | rfl
  · have e0 : v0 = .pointer none := by cases r0 with | st h => cases h with | lit _ => rfl
    subst e0
    refine (copyCheck_freshW g w c0 (ty := ty) (n := 2 + ex.length) (by simp [World.shape?, k3]; simpa using hsz) (by omega) h.lies (Lib.frozen_of_heap k3 0)).mono ?_
    rintro e w' ⟨rfl, rfl⟩
    obtain ⟨σ', ι', env', R', hv'⟩ := key _ (setCell_eq_setRow w g 0 _ _ _ _ k3)
    exact ⟨_, σ', ι', env', rfl, R', hv'⟩
  · obtain ⟨g2, hg2, e0⟩ := aptrW_val r0 hSa
    rw [hg] at hg2
    cases hg2
    subst e0
    refine (copyCheck_usedW g w c0).mono ?_
    rintro e w' ⟨rfl, rfl⟩
    obtain ⟨σ', ι', env', R', hv'⟩ := key _ (setRow_self w' g _ _ _ k3).symm
    exact ⟨_, σ', ι', env', rfl, R', hv'⟩
theorem byteRowW_app (a b : ByteArray) : byteRow (a ++ b) = byteRow a ++ byteRow b := by unfold byteRow; simp
theorem rens_len (ρ : Nat → Nat) (ex : List AC) : (AC.rens ρ ex).length = ex.length := by rw [AC.rens_eq, List.length_map]
theorem bldW_up {ty : TypeId} {ex : List AC} {a0 r : Nat} {bs : ByteArray} {S : AStore} (h : BldW ty ex S a0 r bs) : BldW ty (AC.rens up1 ex) (upS S) (up1 a0) (up1 r) bs := by
  obtain ⟨p, hp, hSa⟩ := h.box
  refine ⟨up1_le _, up1_le _, fun e => h.ne (Nat.add_right_cancel e), ?_, by rw [rens_len]; exact h.lies, ?_, by rw [upS_some h.row]; rfl⟩
  · have := AC.rens_high ex
    exact this
  rcases hp with rfl | rfl
  · exact ⟨_, .inl rfl, by rw [upS_some hSa]; rfl⟩
  · exact ⟨_, .inr rfl, by rw [upS_some hSa]; rfl⟩
theorem rens_dn (ex : List AC) : AC.rens dn1 (AC.rens up1 ex) = ex := AC.rens_rens up1 dn1 dn_up ex
theorem writeStringW_S {ty : TypeId} {ex : List AC} {a0 r : Nat} {bs : ByteArray} {S : AStore} (h : BldW ty ex S a0 r bs) (s : ByteArray) (hz : bs.size + s.size ≤ 140737488355328) : ACallsS Tryd.prog 61 [.one (.ptr a0 1 0 0), aStr s] S (.tup [aInt s.size, .one (.st (.lit .nilIface))]) (bldWS ty ex S a0 r (bs ++ s)) := by
  obtain ⟨p, hp, hSa⟩ := h.box
  have hSr := h.row
  have ha := h.ha
  have hr := h.hr
  have hne := h.ne
  have hne2 : ¬ r = a0 := fun e => hne e.symm
  have hbl := byteRow_len bs
  refine ok_strings_Builder_WriteString.acS fun hS C hC => ?_
  unfold ir_strings_Builder_WriteString
  repeat' (first | (with_reducible first | refine W ?_ | refine Wz0 ?_) | ((with_reducible first | refine Wo (fun K hK => ?_) | refine Wp ?_ | refine Wq ?_ | refine Wr ?_); (try simp only [go_sem, fN, seval, eT, iR, hSa, dT, dF, nL]); (repeat with_reducible refine Ai ?_); (try (refine hK _ ?_; clear hK K)); (try with_reducible refine iC ?_)))
  refine ⟨_, _, copyCheckW_S (bldW_up h), ?_⟩
  repeat' (first | (with_reducible first | refine W ?_ | refine Wz0 ?_) | ((with_reducible first | refine Wo (fun K hK => ?_) | refine Wp ?_ | refine Wq ?_ | refine Wr ?_); (try simp only [go_sem, fN, seval, eT, iR, hSa, hSr, hne, hne2, hbl, rens_dn, dT, dF, nL]); (repeat with_reducible refine Ai ?_); (try (refine hK _ ?_; clear hK K)); (try with_reducible refine iC ?_)))
  refine finS_two (.tup [aInt s.size, .one (.st (.lit .nilIface))]) hS ha hr hne2 (bldW_high ha hr h.hex) rfl trivial ?_ ?_ ?_ ?_ fun i hi i1 i2 => ?_
  · simp only [go_sem, fN, seval, eT, iR, resAll, resOne, tupV]
  · simp only [go_sem, fN, seval, eT, iR]
    try rfl
  · simp only [go_sem, fN, seval, eT, iR, hne, hne2]
    try (rw [ByteArray.size_append])
  · simp only [go_sem, fN, seval, eT, iR, hne, hne2, byteRowW_app]
  · simp only [go_sem, fN, seval, eT, iR, i1, i2]
theorem byteRowW_one (c : UInt8) : byteRow ⟨#[c]⟩ = [[.int .u8 (c.toNat : Int)]] := rfl
theorem writeByteW_S {ty : TypeId} {ex : List AC} {a0 r : Nat} {bs : ByteArray} {S : AStore} (h : BldW ty ex S a0 r bs) (c : UInt8) (hz : bs.size + 1 ≤ 140737488355328) : ACallsS Tryd.prog 60 [.one (.ptr a0 1 0 0), .one (.st (.int .u8 (c.toNat : Int)))] S (.one (.st (.lit .nilIface))) (bldWS ty ex S a0 r (bs ++ ⟨#[c]⟩)) := by
  obtain ⟨p, hp, hSa⟩ := h.box
  have hSr := h.row
  have ha := h.ha
  have hr := h.hr
  have hne := h.ne
  have hne2 : ¬ r = a0 := fun e => hne e.symm
  have hbl := byteRow_len bs
  have hsz : (bs ++ ⟨#[c]⟩).size = bs.size + 1 := by rw [ByteArray.size_append]; rfl
  refine ok_strings_Builder_WriteByte.acS fun hS C hC => ?_
  unfold ir_strings_Builder_WriteByte
  repeat' (first | (with_reducible first | refine W ?_ | refine Wz0 ?_) | ((with_reducible first | refine Wo (fun K hK => ?_) | refine Wp ?_ | refine Wq ?_ | refine Wr ?_); (try simp only [go_sem, fN, seval, eT, iR, hSa, dT, dF, nL]); (repeat with_reducible refine Ai ?_); (try (refine hK _ ?_; clear hK K)); (try with_reducible refine iC ?_)))
  refine ⟨_, _, copyCheckW_S (bldW_up h), ?_⟩
  have h63 : bs.size + 1 ≤ maxLen := by rw [maxLen_eq]; omega
  repeat' (first | (with_reducible first | refine W ?_ | refine Wz0 ?_) | ((with_reducible first | refine Wo (fun K hK => ?_) | refine Wp ?_ | refine Wq ?_ | refine Wr ?_); (try simp only [go_sem, fN, seval, eT, iR, hSa, hSr, hne, hne2, hbl, h63, rens_dn, dT, dF, nL]); (repeat with_reducible refine Ai ?_); (try (refine hK _ ?_; clear hK K)); (try with_reducible refine iC ?_)))
  refine finS_two (.one (.st (.lit .nilIface))) hS ha hr hne2 (bldW_high ha hr h.hex) rfl trivial ?_ ?_ ?_ ?_ fun i hi i1 i2 => ?_
  · simp only [go_sem, fN, seval, eT, iR, resAll, resOne, tupV]
  · simp only [go_sem, fN, seval, eT, iR]
    try rfl
  · simp only [go_sem, fN, seval, eT, iR, hne, hne2, hbl, hsz]
  · simp only [go_sem, fN, seval, eT, iR, hne, hne2, byteRowW_app, byteRowW_one]
  · simp only [go_sem, fN, seval, eT, iR, i1, i2]
theorem builderStringW_S {ty : TypeId} {ex : List AC} {a0 r : Nat} {bs : ByteArray} {S : AStore} (h : BldW ty ex S a0 r bs) (h0 : 0 < bs.size) (hmx : bs.size ≤ 140737488355328) : ACallsS Tryd.prog 53 [.one (.ptr a0 1 0 0)] S (aStr bs) (updE S r (some (.dead bs.size 1))) := by
  obtain ⟨p, hp, hSa⟩ := h.box
  refine acallsS_hand (fun hc => clean_upd hc h.hr rfl) fun hclean C σ ι vs w hn R hvs => ?_
  obtain ⟨v, rfl⟩ : ∃ v, vs = [v] := by
    have := hvs.len
    match vs, this with
    | [v], _ => exact ⟨v, rfl⟩
  have hv : VRep σ S ι v (.one (.ptr a0 1 0 0)) := by cases hvs with | cons h _ => exact h
  obtain ⟨g, hg, rfl⟩ := ptrW_val hv hSa
  have hb := R.blk a0 _ hSa
  have hbr := R.blk r _ h.row
  have hlen : (byteRow bs).length = bs.size := byteRow_len bs
  cases hb with
  | @box _ _ g' vs k1 k2 k3 k4 k5 =>
  rw [hg] at k1
  cases k1
  obtain ⟨v0, v1, vm, hvs2⟩ := list_two_more (n := ex.length) (show vs.toList.length = 2 + ex.length by rw [k4.len]; simp; omega)
  obtain rfl : vs = (v0 :: v1 :: vm).toArray := by rw [← hvs2]
  have r1 : ARep σ S ι v1 (.row r bs.size) := by cases k4 with | cons _ h => cases h with | cons h _ => exact h
  generalize hrow : byteRow bs = row at hbr hlen
  cases hbr with
  | mnil m1 m2 => simp at hlen; omega
  | @mrow _ _ _ gr cur m1 m2 m3 m4 m5 m6 m7 m8 m9 =>
  subst hrow
  have e1 : v1 = .slice (some ⟨gr, 0, none⟩) bs.size (ι r).cap := by
    cases r1 with
    | row q1 q2 q3 q4 =>
      rw [h.row] at q1
      cases q1
      rw [q4 hlen.symm, m2]
  subst e1
  have hl : bs.data.toList.length = bs.size := by rw [Array.length_toList]; rfl
  refine (builderStringW_at g gr (ι r).cap _ ty cur bs.data.toList w (fun e => by rw [e] at hl; simp at hl; omega) k3 (by rw [hl]; rfl) m3 m5 (by omega) (by rw [m6, hl]; omega) fun j x hx => ?_).mono ?_
  · have hx' : (byteRow bs)[j]? = some [SV.int .u8 (x.toNat : Int)] := by
      unfold byteRow
      rw [List.getElem?_map, hx]
      rfl
    obtain ⟨u, u1, u2⟩ := m8 j _ 0 _ hx' rfl
    rw [Nat.mul_one, Nat.add_zero] at u1
    rw [u1]
    cases u2
    rfl
  · rintro e w' ⟨rfl, f1, f2, f3, f4, f5, f6⟩
    obtain ⟨hu, R'⟩ := R.turn (w' := w') h.row (.dead bs.size 1) (ι r) (σ' := σ) (fun _ _ h => h) (fun _ _ _ => rfl) (R.fit.row m9 f2) (by simp [ABlk.len, hlen]) (fun _ => ⟨rfl, rfl⟩) ⟨f3, f4, f5⟩ (by omega)
      (fun k hk hne => f2 k (fun e => hne (by rw [e]; exact m1))) (fun g h => .inl h) (fun hu => .dead fun g hg => by
        rw [m1] at hg
        cases hg
        obtain ⟨f', h'⟩ := f6 _ _ _ m3
        exact ⟨_, h', rfl⟩)
    refine ⟨_, σ, _, _, rfl, R', .one (.st (.str ?_))⟩
    show bs.size ≤ maxLen
    rw [maxLen_eq]
    omega

set_option maxHeartbeats 2000000
theorem hiw_ne {b c : Nat} (hb : 1000 ≤ b) (hc : c < 1000) : (b = c) = False := eq_false (by omega)
theorem low_ne {b c : Nat} (hb : 1000 ≤ b) (hc : c < 1000) : (c = b) = False := eq_false (by omega)
theorem itoaS_a (k : Nat) (hk : k < 1000000) : ACalls Tryd.prog 58 [aInt k] (aStr (decS k)) := by
  have h := itoaAll_a (k : Int)
  have hd : (⟨(Lib.itoa (k : Int)).toArray⟩ : ByteArray) = decS k := by rw [Lib.itoa_nonneg]; rfl
  rw [hd] at h
  exact h
abbrev wT : TypeId := 78
abbrev rowW (xs : List ByteArray) : ABlk := .mrow 9 1 (xs.map encS)
abbrev boxW (p : AC) (r n : Nat) (c : AC) (o : Int) : ABlk := .box wT [p, .row r n, c, .st (.int .i64 o)]
theorem liesW : liesAt Tryd.prog (Tryd.prog).depth wT (4 / (Tryd.prog).cellsOf wT) 0 bTW 1 = true := by kernel_rfl
theorem bldW_mkU {S : AStore} {b r : Nat} {bs : ByteArray} {c p : AC} {o : Int} (hbr : b ≠ r) (hp : p = .st (.lit (.pointer none)) ∨ p = .ptr b 1 0 0) (h1 : S b = some (boxW p r bs.size c o)) (h2 : S r = some (.mrow u8W 1 (byteRow bs))) : BldW wT (AC.rens up1 [c, .st (.int .i64 o)]) (upS S) (up1 b) (up1 r) bs := by
  refine ⟨up1_le _, up1_le _, fun e => hbr (Nat.add_right_cancel e), AC.rens_high _, by rw [rens_len]; exact liesW, ?_, by rw [upS_some h2]; rfl⟩
  rcases hp with rfl | rfl
  · exact ⟨_, .inl rfl, by rw [upS_some h1]; rfl⟩
  · exact ⟨_, .inr rfl, by rw [upS_some h1]; rfl⟩
theorem dn_bldWS {ty : TypeId} {ex : List AC} {S : AStore} {b r : Nat} {bs : ByteArray} : dnS (bldWS ty (AC.rens up1 ex) (upS S) (up1 b) (up1 r) bs) = bldWS ty ex S b r bs := by
  unfold bldWS
  rw [dnS_upd, dnS_upd, dn_upS]
  show updE (updE S b (some (ABlk.box ty (AC.ptr (dn1 (up1 b)) 1 0 0 :: AC.row (dn1 (up1 r)) _ :: AC.rens dn1 (AC.rens up1 ex))))) r _ = _
  rw [dn_up, dn_up, rens_dn]
  rfl
def wdone (S : AStore) (b r i ni N : Nat) (ns : List ByteArray) (bs : ByteArray) (o : Int) : AStore := updE (updE (updE (updE S i (some (.dead N 1))) ni (some (rowW ns))) b (some (boxW (.ptr b 1 0 0) r bs.size (.row ni ns.length) o))) r (some (.mrow u8W 1 (byteRow bs)))
theorem dn_wdone {S : AStore} {b r i ni N : Nat} {ns : List ByteArray} {bs : ByteArray} {o : Int} : dnS (wdone (upS S) (up1 b) (up1 r) (up1 i) (up1 ni) N ns bs o) = wdone S b r i ni N ns bs o := by
  unfold wdone
  rw [dnS_upd, dnS_upd, dnS_upd, dnS_upd, dn_upS]
  show updE (updE _ b (some (ABlk.box wT [AC.ptr (dn1 (up1 b)) 1 0 0, AC.row (dn1 (up1 r)) _, AC.row (dn1 (up1 ni)) _, _]))) r _ = _
  rw [dn_up, dn_up, dn_up]
  rfl
theorem boxW_high {p : AC} {r n i m : Nat} {o : Int} (hp : p.high = true) (hr : 1000 ≤ r) (hi : 1000 ≤ i) : (boxW p r n (.row i m) o).high = true := by
  show AC.highs [p, .row r n, .row i m, _] = true
  simp only [AC.highs, AC.high, hp, decide_eq_true hr, decide_eq_true hi, Bool.and_self]
theorem clean_wdone {S : AStore} {b r i ni N : Nat} {ns : List ByteArray} {bs : ByteArray} {o : Int} (hb : 1000 ≤ b) (hr : 1000 ≤ r) (hi : 1000 ≤ i) (hn : 1000 ≤ ni) (hS : Clean S) : Clean (wdone S b r i ni N ns bs o) :=
  clean_upd (clean_upd (clean_upd (clean_upd hS hi rfl) hn rfl) hb (boxW_high (high_ptr hb) hr hn)) hr rfl
theorem up_boxW {S : AStore} {b r n i m : Nat} {o : Int} (h : S b = some (boxW (.ptr b 1 0 0) r n (.row i m) o)) : upS S (up1 b) = some (boxW (.ptr (up1 b) 1 0 0) (up1 r) n (.row (up1 i) m) o) := upS_some h
theorem up_boxW0 {S : AStore} {b r n i m : Nat} {o : Int} (h : S b = some (boxW (.st (.lit (.pointer none))) r n (.row i m) o)) : upS S (up1 b) = some (boxW (.st (.lit (.pointer none))) (up1 r) n (.row (up1 i) m) o) := upS_some h
theorem up_rowW {S : AStore} {i : Nat} {ns : List ByteArray} (h : S i = some (rowW ns)) : upS S (up1 i) = some (rowW ns) := upS_some h
theorem up_mrowW {S : AStore} {r : Nat} {bs : ByteArray} (h : S r = some (.mrow u8W 1 (byteRow bs))) : upS S (up1 r) = some (.mrow u8W 1 (byteRow bs)) := upS_some h
theorem up_noneW {S : AStore} {i : Nat} (h : S i = none) : upS S (up1 i) = none := by rw [upS_up, h]; rfl
theorem wend {C : Ctx} {x : AS} {S : AStore} {b r i j ni N : Nat} {ns xs : List ByteArray} {bs : ByteArray} {o : Int} {c : AC} {e : AX} (hS : Clean S) (he : match e with | .normal => True | .ret => True | _ => False) (hb1 : 1000 ≤ b) (hr1 : 1000 ≤ r) (hi1 : 1000 ≤ i) (hb : x.S b = some (boxW (.ptr b 1 0 0) r bs.size c o)) (hr : x.S r = some (.mrow u8W 1 (byteRow bs))) (hj : x.S j = some (rowW xs)) (hN : xs.length < N) (hc : c = .part j ns.length xs.length ∨ (c = .row j ns.length ∧ ns.length = xs.length)) (hx : xs.take ns.length = ns) (hni : x.S ni = none) (hbn : b ≠ ni) (hrn : r ≠ ni) (hrb : r ≠ b) (hrj : r ≠ j) (h1000 : 1000 ≤ ni)
    (hi : (j = i) ∨ (j < 1000 ∧ x.S i = some (.dead N 1) ∧ i ≠ ni ∧ i ≠ b ∧ i ≠ r)) (h3 : ∀ j, 1000 ≤ j → j ≠ b → j ≠ r → j ≠ i → x.S j = S j) : FinS C [] (.tup []) (wdone S b r i ni N ns bs o) e x := by
  have hjb : b ≠ j := fun e => by subst e; rw [hb] at hj; cases hj
  have hjn : j ≠ ni := fun e => by subst e; rw [hj] at hni; cases hni
  have hg := Ghost.rebase (C := C) (s := x) b j ni 2 ns.length N (xs := xs.map encS) (by simpa using hN) hb hj hni (by
    rw [List.length_map]
    rcases hc with rfl | ⟨rfl, h⟩
    · exact .inl rfl
    · exact .inr ⟨rfl, h⟩)
  refine finS_ghost hg (finS_same (.tup []) (clean_wdone hb1 hr1 hi1 h1000 hS) he rfl rfl fun k hk => ?_)
  show updE (updE (updE x.S j (some (.dead N 1))) ni (some (ABlk.mrow _ 1 ((xs.map encS).take ns.length)))) b (some (ABlk.box _ ([_, _, c, _].set 2 (.row ni ns.length)))) k = _
  rw [← List.map_take, hx]
  unfold wdone
  by_cases e0 : k = r
  · subst e0
    rw [updE_ne _ hrb, updE_ne _ hrn, updE_ne _ hrj, hr, updE_same]
  rw [updE_ne _ e0]
  by_cases e1 : k = b
  · subst e1
    rw [updE_same, updE_same]
    rfl
  rw [updE_ne _ e1, updE_ne _ e1]
  by_cases e2 : k = ni
  · subst e2
    rw [updE_same, updE_same]
  rw [updE_ne _ e2, updE_ne _ e2]
  rcases hi with rfl | ⟨q1, q2, q3, q4, q5⟩
  · by_cases e3 : k = j
    · subst e3
      rw [updE_same, updE_same]
    · rw [updE_ne _ e3, updE_ne _ e3, h3 k hk e1 e0 e3]
  · rw [updE_ne _ (show k ≠ j by omega)]
    by_cases e3 : k = i
    · subst e3
      rw [updE_same, q2]
    · rw [updE_ne _ e3, h3 k hk e1 e0 e3]

def brP (t : Lm) (place : Int) : Bool := decide (t.kind = 2 ∧ 0 < place ∨ t.kind = 3 ∧ 1 < place)
def WrS (o : Nat) (ns : List ByteArray) (t : Lm) (s : ByteArray) : Prop := ∀ (place : Int) (bs : ByteArray) (p : AC) (b r i ni N : Nat) (S : AStore), 0 ≤ place ∧ place ≤ 2 → ns.length + t.size < N → N ≤ 1000000 → bs.size + s.size + 4 * t.size ≤ 1000000000 → 1000 ≤ b → 1000 ≤ r → 1000 ≤ i → 1000 ≤ ni → (p = .st (.lit (.pointer none)) ∨ p = .ptr b 1 0 0) → S b = some (boxW p r bs.size (.row i ns.length) o) → S r = some (.mrow u8W 1 (byteRow bs)) → S i = some (rowW ns) → S ni = none →
  ACallsS Tryd.prog 52 [.one (.ptr b 1 0 0), aLm t, aInt place] S (.tup []) (wdone S b r i ni N ns (bs ++ brk (brP t place) s) o)
theorem up_boxWp {S : AStore} {b r n i m : Nat} {o : Int} {p : AC} (hp : p = .st (.lit (.pointer none)) ∨ p = .ptr b 1 0 0) (h : S b = some (boxW p r n (.row i m) o)) : ∃ p', (p' = .st (.lit (.pointer none)) ∨ p' = .ptr (up1 b) 1 0 0) ∧ upS S (up1 b) = some (boxW p' (up1 r) n (.row (up1 i) m) o) := by
  rcases hp with rfl | rfl
  · exact ⟨_, .inl rfl, upS_some h⟩
  · exact ⟨_, .inr rfl, upS_some h⟩
set_option maxRecDepth 100000 in
theorem write_v {o : Nat} {ns : List ByteArray} {j : Nat} {n : ByteArray} (h : j < ns.length) (hn : ns[ns.length - 1 - j]? = some n) : WrS o ns (.v j) n := by
  intro place bs p b r i ni N S hpl hN hN2 hz hb hr hi hni hp sb sr si sni
  have hbr : ¬ b = r := fun e => by subst e; rw [sb] at sr; cases sr
  have hbi : ¬ b = i := fun e => by subst e; rw [sb] at si; cases si
  have hbn : ¬ b = ni := fun e => by subst e; rw [sb] at sni; cases sni
  have hri : ¬ r = i := fun e => by subst e; rw [sr] at si; injection si with si; injection si with si; exact absurd si (by decide)
  have hrn : ¬ r = ni := fun e => by subst e; rw [sr] at sni; cases sni
  have hin : ¬ i = ni := fun e => by subst e; rw [si] at sni; cases sni
  have hrb : ¬ r = b := fun e => hbr e.symm
  have hib : ¬ i = b := fun e => hbi e.symm
  have hnb : ¬ ni = b := fun e => hbn e.symm
  have hir : ¬ i = r := fun e => hri e.symm
  have hnr : ¬ ni = r := fun e => hrn e.symm
  have hnj : ¬ ni = i := fun e => hin e.symm
  have hbk : brk (brP (.v j) place) n = n := by
    unfold brP brk
    rw [if_neg]
    simp [Lm.v, Lm.kind]
  rw [hbk]
  refine ok_metaprune_lambda_writer_write.acS fun hS C hC => ?_
  unfold ir_metaprune_lambda_writer_write
  have n4 : S 4 = none := clean_none hS (by omega)
  have n901 : S 901 = none := clean_none hS (by omega)
  have n902 : S 902 = none := clean_none hS (by omega)
  have hge : (0 : Int) ≤ (ns.length : Int) - 1 - j := by omega
  have hidx : (ns.length : Int) - 1 - j = ((ns.length - 1 - j : Nat) : Int) := by omega
  have hge2 : (0 : Int) ≤ ((ns.length - 1 - j : Nat) : Int) := by omega
  have hml : (ns.map encS).length = ns.length := by simp
  repeat' (first | (with_reducible first | refine W ?_ | refine Wz0 ?_) | ((with_reducible first | refine Wo (fun K hK => ?_) | refine Wp ?_ | refine Wq ?_ | refine Wr ?_); (try simp only [go_sem, fN, seval, eT, iR, AS.startS, hiw_ne, low_ne, hb, hr, hi, hni, n4, n901, n902, hbr, hrb, hbi, hib, hbn, hnb, hri, hir, hrn, hnr, hin, hnj, dn_bldWS, bldWS, sb, sr, si, Lm.v, Lm.kind_mk, Lm.idx_mk, Lm.subs_mk, hidx, hge2, hn, hml, encS, dT, dF, nL]); (repeat with_reducible refine Ai ?_); (try (refine hK _ ?_; clear hK K)); (try with_reducible refine iC ?_)))
  refine ⟨_, _, writeStringW_S (bldW_mkU (bs := bs) (c := .row i ns.length) (o := o) hbr hp (by simp only [go_sem, fN, seval, eT, iR, hiw_ne, low_ne, hb, hr, hi, hni, n4, n901, n902, hbr, hrb, hbi, hib, hbn, hnb, hri, hir, hrn, hnr, hin, hnj, dn_bldWS, bldWS, sb, sr]) (by simp only [go_sem, fN, seval, eT, iR, hiw_ne, low_ne, hb, hr, hi, hni, n4, n901, n902, hbr, hrb, hbi, hib, hbn, hnb, hri, hir, hrn, hnr, hin, hnj, dn_bldWS, bldWS, sb, sr])) (n) (by first | omega | (simp only [ByteArray.size_append] at *; omega)), ?_⟩
  repeat' (first | (with_reducible first | refine W ?_ | refine Wz0 ?_) | ((with_reducible first | refine Wo (fun K hK => ?_) | refine Wp ?_ | refine Wq ?_ | refine Wr ?_); (try simp only [go_sem, fN, seval, eT, iR, hiw_ne, low_ne, hb, hr, hi, hni, n4, n901, n902, hbr, hrb, hbi, hib, hbn, hnb, hri, hir, hrn, hnr, hin, hnj, dn_bldWS, bldWS, sb, sr, si, dT, dF, nL]); (repeat with_reducible refine Ai ?_); (try (refine hK _ ?_; clear hK K)); (try with_reducible refine iC ?_)))
  refine wend hS trivial hb hr hi (j := i) (xs := ns) (c := .row i ns.length) ?_ ?_ ?_ (by omega) (.inr ⟨rfl, rfl⟩) List.take_length ?_ hbn hrn hrb hri hni (.inl rfl) fun k k1 k2 k3 k4 => ?_
  · simp only [go_sem, fN, seval, eT, iR, hiw_ne, low_ne, hb, hr, hi, hni, n4, n901, n902, hbr, hrb, hbi, hib, hbn, hnb, hri, hir, hrn, hnr, hin, hnj, dn_bldWS, bldWS]
  · simp only [go_sem, fN, seval, eT, iR, hiw_ne, low_ne, hb, hr, hi, hni, n4, n901, n902, hbr, hrb, hbi, hib, hbn, hnb, hri, hir, hrn, hnr, hin, hnj, dn_bldWS, bldWS]
  · simp only [go_sem, fN, seval, eT, iR, hiw_ne, low_ne, hb, hr, hi, hni, n4, n901, n902, hbr, hrb, hbi, hib, hbn, hnb, hri, hir, hrn, hnr, hin, hnj, dn_bldWS, bldWS, si]
  · simp only [go_sem, fN, seval, eT, iR, hiw_ne, low_ne, hb, hr, hi, hni, n4, n901, n902, hbr, hrb, hbi, hib, hbn, hnb, hri, hir, hrn, hnr, hin, hnj, dn_bldWS, bldWS, sni]
  · simp only [go_sem, fN, seval, eT, iR, hiw_ne, low_ne, k1, k2, k3, k4, dn_bldWS, bldWS]
set_option maxRecDepth 100000 in
theorem write_c {o : Nat} {ns : List ByteArray} {j : Nat} (h : j < 40) : WrS o ns (.mk 4 j []) (⟨#[99]⟩ ++ decS j) := by
  intro place bs p b r i ni N S hpl hN hN2 hz hb hr hi hni hp sb sr si sni
  have hbr : ¬ b = r := fun e => by subst e; rw [sb] at sr; cases sr
  have hbi : ¬ b = i := fun e => by subst e; rw [sb] at si; cases si
  have hbn : ¬ b = ni := fun e => by subst e; rw [sb] at sni; cases sni
  have hri : ¬ r = i := fun e => by subst e; rw [sr] at si; injection si with si; injection si with si; exact absurd si (by decide)
  have hrn : ¬ r = ni := fun e => by subst e; rw [sr] at sni; cases sni
  have hin : ¬ i = ni := fun e => by subst e; rw [si] at sni; cases sni
  have hrb : ¬ r = b := fun e => hbr e.symm
  have hib : ¬ i = b := fun e => hbi e.symm
  have hnb : ¬ ni = b := fun e => hbn e.symm
  have hir : ¬ i = r := fun e => hri e.symm
  have hnr : ¬ ni = r := fun e => hrn e.symm
  have hnj : ¬ ni = i := fun e => hin e.symm
  have hbk : brk (brP (.mk 4 j []) place) (⟨#[99]⟩ ++ decS j) = ⟨#[99]⟩ ++ decS j := by
    unfold brP brk
    rw [if_neg]
    simp [Lm.kind]
  rw [hbk]
  refine ok_metaprune_lambda_writer_write.acS fun hS C hC => ?_
  unfold ir_metaprune_lambda_writer_write
  have n4 : S 4 = none := clean_none hS (by omega)
  have n901 : S 901 = none := clean_none hS (by omega)
  have n902 : S 902 = none := clean_none hS (by omega)
  have hds := decS_size_le (n := j) (by omega)
  have h99 : (⟨#[99]⟩ : ByteArray).size = 1 := rfl
  repeat' (first | (with_reducible first | refine W ?_ | refine Wz0 ?_) | refine Cg _ (itoaS_a j (by omega)) ?_ | ((with_reducible first | refine Wo (fun K hK => ?_) | refine Wp ?_ | refine Wq ?_ | refine Wr ?_); (try simp only [go_sem, fN, seval, eT, iR, AS.startS, hiw_ne, low_ne, hb, hr, hi, hni, n4, n901, n902, hbr, hrb, hbi, hib, hbn, hnb, hri, hir, hrn, hnr, hin, hnj, dn_bldWS, bldWS, sb, sr, si, Lm.kind_mk, Lm.idx_mk, Lm.subs_mk, h99, dT, dF, nL]); (repeat with_reducible refine Ai ?_); (try (refine hK _ ?_; clear hK K)); (try with_reducible refine iC ?_)))
  refine ⟨_, _, writeStringW_S (bldW_mkU (bs := bs) (c := .row i ns.length) (o := o) hbr hp (by simp only [go_sem, fN, seval, eT, iR, hiw_ne, low_ne, hb, hr, hi, hni, n4, n901, n902, hbr, hrb, hbi, hib, hbn, hnb, hri, hir, hrn, hnr, hin, hnj, dn_bldWS, bldWS, sb, sr]) (by simp only [go_sem, fN, seval, eT, iR, hiw_ne, low_ne, hb, hr, hi, hni, n4, n901, n902, hbr, hrb, hbi, hib, hbn, hnb, hri, hir, hrn, hnr, hin, hnj, dn_bldWS, bldWS, sb, sr])) (⟨#[99]⟩ ++ decS j) (by first | omega | (simp only [ByteArray.size_append] at *; omega)), ?_⟩
  repeat' (first | (with_reducible first | refine W ?_ | refine Wz0 ?_) | ((with_reducible first | refine Wo (fun K hK => ?_) | refine Wp ?_ | refine Wq ?_ | refine Wr ?_); (try simp only [go_sem, fN, seval, eT, iR, hiw_ne, low_ne, hb, hr, hi, hni, n4, n901, n902, hbr, hrb, hbi, hib, hbn, hnb, hri, hir, hrn, hnr, hin, hnj, dn_bldWS, bldWS, sb, sr, si, dT, dF, nL]); (repeat with_reducible refine Ai ?_); (try (refine hK _ ?_; clear hK K)); (try with_reducible refine iC ?_)))
  refine wend hS trivial hb hr hi (j := i) (xs := ns) (c := .row i ns.length) ?_ ?_ ?_ (by omega) (.inr ⟨rfl, rfl⟩) List.take_length ?_ hbn hrn hrb hri hni (.inl rfl) fun k k1 k2 k3 k4 => ?_
  · simp only [go_sem, fN, seval, eT, iR, hiw_ne, low_ne, hb, hr, hi, hni, n4, n901, n902, hbr, hrb, hbi, hib, hbn, hnb, hri, hir, hrn, hnr, hin, hnj, dn_bldWS, bldWS]
  · simp only [go_sem, fN, seval, eT, iR, hiw_ne, low_ne, hb, hr, hi, hni, n4, n901, n902, hbr, hrb, hbi, hib, hbn, hnb, hri, hir, hrn, hnr, hin, hnj, dn_bldWS, bldWS]
  · simp only [go_sem, fN, seval, eT, iR, hiw_ne, low_ne, hb, hr, hi, hni, n4, n901, n902, hbr, hrb, hbi, hib, hbn, hnb, hri, hir, hrn, hnr, hin, hnj, dn_bldWS, bldWS, si]
  · simp only [go_sem, fN, seval, eT, iR, hiw_ne, low_ne, hb, hr, hi, hni, n4, n901, n902, hbr, hrb, hbi, hib, hbn, hnb, hri, hir, hrn, hnr, hin, hnj, dn_bldWS, bldWS, sni]
  · simp only [go_sem, fN, seval, eT, iR, hiw_ne, low_ne, k1, k2, k3, k4, dn_bldWS, bldWS]
theorem brk0 (t : Lm) (s : ByteArray) : brk (brP t 0) s = s := by
  unfold brP brk
  rw [if_neg]
  simp
set_option maxRecDepth 100000 in
theorem write_l {o : Nat} {ns : List ByteArray} {t : Lm} {s : ByteArray} (ho : o ≤ ns.length) (ih : WrS o (ns ++ [lxName 120 (ns.length - o)]) t s) : WrS o ns (.l t) (⟨#[92]⟩ ++ lxName 120 (ns.length - o) ++ ⟨#[46]⟩ ++ s) := by
  intro place bs p b r i ni N S hpl hN hN2 hz hb hr hi hni hp sb sr si sni
  have hbr : ¬ b = r := fun e => by subst e; rw [sb] at sr; cases sr
  have hbi : ¬ b = i := fun e => by subst e; rw [sb] at si; cases si
  have hbn : ¬ b = ni := fun e => by subst e; rw [sb] at sni; cases sni
  have hri : ¬ r = i := fun e => by subst e; rw [sr] at si; injection si with si; injection si with si; exact absurd si (by decide)
  have hrn : ¬ r = ni := fun e => by subst e; rw [sr] at sni; cases sni
  have hin : ¬ i = ni := fun e => by subst e; rw [si] at sni; cases sni
  have hrb : ¬ r = b := fun e => hbr e.symm
  have hib : ¬ i = b := fun e => hbi e.symm
  have hnb : ¬ ni = b := fun e => hbn e.symm
  have hir : ¬ i = r := fun e => hri e.symm
  have hnr : ¬ ni = r := fun e => hrn e.symm
  have hnj : ¬ ni = i := fun e => hin e.symm
  rw [Lm.size_l] at hN hz
  refine ok_metaprune_lambda_writer_write.acS fun hS C hC => ?_
  unfold ir_metaprune_lambda_writer_write
  have n4 : S 4 = none := clean_none hS (by omega)
  have n901 : S 901 = none := clean_none hS (by omega)
  have n902 : S 902 = none := clean_none hS (by omega)
  have hsub : (ns.length : Int) - o = ((ns.length - o : Nat) : Int) := by omega
  have hds := decS_size_le (n := ns.length - o) (by omega)
  have h120 : (⟨#[120]⟩ : ByteArray).size = 1 := rfl
  have h92 : (⟨#[92]⟩ : ByteArray).size = 1 := rfl
  have h46 : (⟨#[46]⟩ : ByteArray).size = 1 := rfl
  have h40 : (⟨#[40]⟩ : ByteArray).size = 1 := rfl
  have h41 : (⟨#[41]⟩ : ByteArray).size = 1 := rfl
  have hml : (ns.map encS).length = ns.length := by simp
  have hxs : (lxName 120 (ns.length - o)).size ≤ 7 := lxName_size (by omega)
  have hx : ⟨#[120]⟩ ++ decS (ns.length - o) = lxName 120 (ns.length - o) := rfl
  generalize lxName 120 (ns.length - o) = nm at *
  have hlen : (ns ++ [nm]).length = ns.length + 1 := by simp
  have hmap : (ns ++ [nm]).map encS = ns.map encS ++ [[.str nm]] := by simp [encS]
  have hl2 : ((ns ++ [nm]).map encS).length = ns.length + 1 := by simp
  have hl3 : (((ns.length + 1 : Nat) : Int) - 1).toNat = ns.length := by omega
  simp only [ByteArray.size_append] at hz
  by_cases hp0 : 0 < place
  · have hbk : bs ++ brk (brP (.l t) place) (⟨#[92]⟩ ++ nm ++ ⟨#[46]⟩ ++ s) = bs ++ ⟨#[40]⟩ ++ (⟨#[92]⟩ ++ nm ++ ⟨#[46]⟩) ++ s ++ ⟨#[41]⟩ := by
      unfold brP brk
      rw [if_pos]
      · simp only [ByteArray.append_assoc]
      · simp [Lm.l, Lm.kind, hp0]
    rw [hbk]
    obtain ⟨Sd, hW⟩ : ∃ Sd, wdone S b r i ni N ns (bs ++ ⟨#[40]⟩ ++ (⟨#[92]⟩ ++ nm ++ ⟨#[46]⟩) ++ s ++ ⟨#[41]⟩) o = Sd := ⟨_, rfl⟩
    rw [hW]
    repeat' (first | (with_reducible first | refine W ?_ | refine Wz0 ?_) | ((with_reducible first | refine Wo (fun K hK => ?_) | refine Wp ?_ | refine Wq ?_ | refine Wr ?_); (try simp only [go_sem, fN, seval, eT, iR, AS.startS, hiw_ne, low_ne, hb, hr, hi, hni, n4, n901, n902, hbr, hrb, hbi, hib, hbn, hnb, hri, hir, hrn, hnr, hin, hnj, dn_bldWS, bldWS, sb, sr, si, Lm.l, Lm.kind_mk, Lm.idx_mk, Lm.subs_mk, hp0, dT, dF, nL]); (repeat with_reducible refine Ai ?_); (try (refine hK _ ?_; clear hK K)); (try with_reducible refine iC ?_)))
    refine ⟨_, _, writeByteW_S (bldW_mkU (bs := bs) (c := .row i ns.length) (o := o) hbr hp (by simp only [go_sem, fN, seval, eT, iR, hiw_ne, low_ne, hb, hr, hi, hni, n4, n901, n902, hbr, hrb, hbi, hib, hbn, hnb, hri, hir, hrn, hnr, hin, hnj, dn_bldWS, bldWS, sb, sr]) (by simp only [go_sem, fN, seval, eT, iR, hiw_ne, low_ne, hb, hr, hi, hni, n4, n901, n902, hbr, hrb, hbi, hib, hbn, hnb, hri, hir, hrn, hnr, hin, hnj, dn_bldWS, bldWS, sb, sr])) 40 (by first | omega | (simp only [ByteArray.size_append] at *; omega)), ?_⟩
    repeat' (first | (with_reducible first | refine W ?_ | refine Wz0 ?_) | refine Cg _ (itoaS_a (ns.length - o) (by omega)) ?_ | ((with_reducible first | refine Wo (fun K hK => ?_) | refine Wp ?_ | refine Wq ?_ | refine Wr ?_); (try simp only [go_sem, fN, seval, eT, iR, AS.startS, hiw_ne, low_ne, hb, hr, hi, hni, n4, n901, n902, hbr, hrb, hbi, hib, hbn, hnb, hri, hir, hrn, hnr, hin, hnj, dn_bldWS, bldWS, sb, sr, si, Lm.l, Lm.kind_mk, Lm.idx_mk, Lm.subs_mk, hp0, hsub, hx, h120, h92, h46, dT, dF, nL]); (repeat with_reducible refine Ai ?_); (try (refine hK _ ?_; clear hK K)); (try with_reducible refine iC ?_)))
    refine ⟨_, _, writeStringW_S (bldW_mkU (bs := bs ++ ⟨#[40]⟩) (c := .row i ns.length) (o := o) hbr (.inr rfl) (by simp only [go_sem, fN, seval, eT, iR, hiw_ne, low_ne, hb, hr, hi, hni, n4, n901, n902, hbr, hrb, hbi, hib, hbn, hnb, hri, hir, hrn, hnr, hin, hnj, dn_bldWS, bldWS, sb, sr]) (by simp only [go_sem, fN, seval, eT, iR, hiw_ne, low_ne, hb, hr, hi, hni, n4, n901, n902, hbr, hrb, hbi, hib, hbn, hnb, hri, hir, hrn, hnr, hin, hnj, dn_bldWS, bldWS, sb, sr])) (⟨#[92]⟩ ++ nm ++ ⟨#[46]⟩) (by first | omega | (simp only [ByteArray.size_append] at *; omega)), ?_⟩
    repeat' (first | (with_reducible first | refine W ?_ | refine Wz0 ?_) | ((with_reducible first | refine Wo (fun K hK => ?_) | refine Wp ?_ | refine Wq ?_ | refine Wr ?_); (try simp only [go_sem, fN, seval, eT, iR, hiw_ne, low_ne, hb, hr, hi, hni, n4, n901, n902, hbr, hrb, hbi, hib, hbn, hnb, hri, hir, hrn, hnr, hin, hnj, dn_bldWS, bldWS, sb, sr, si, Lm.l, Lm.kind_mk, Lm.idx_mk, Lm.subs_mk, hml, dT, dF, nL]); (repeat with_reducible refine Ai ?_); (try (refine hK _ ?_; clear hK K)); (try with_reducible refine iC ?_)))
    refine ⟨_, _, ih 0 (bs ++ ⟨#[40]⟩ ++ (⟨#[92]⟩ ++ nm ++ ⟨#[46]⟩)) _ (up1 b) (up1 r) (up1 i) (up1 901) N _ (by decide) (by omega) hN2 (by simp only [ByteArray.size_append]; omega) (up1_le _) (up1_le _) (up1_le _) (up1_le _) (.inr rfl) (up_boxW (by simp only [go_sem, fN, seval, eT, iR, hiw_ne, low_ne, hb, hr, hi, hni, n4, n901, n902, hbr, hrb, hbi, hib, hbn, hnb, hri, hir, hrn, hnr, hin, hnj, dn_bldWS, bldWS, hlen])) (up_mrowW (by simp only [go_sem, fN, seval, eT, iR, hiw_ne, low_ne, hb, hr, hi, hni, n4, n901, n902, hbr, hrb, hbi, hib, hbn, hnb, hri, hir, hrn, hnr, hin, hnj, dn_bldWS, bldWS])) (up_rowW (by simp only [go_sem, fN, seval, eT, iR, hiw_ne, low_ne, hb, hr, hi, hni, n4, n901, n902, hbr, hrb, hbi, hib, hbn, hnb, hri, hir, hrn, hnr, hin, hnj, dn_bldWS, bldWS, hmap, rowW])) (up_noneW (by simp only [go_sem, fN, seval, eT, iR, hiw_ne, low_ne, hb, hr, hi, hni, n4, n901, n902, hbr, hrb, hbi, hib, hbn, hnb, hri, hir, hrn, hnr, hin, hnj, dn_bldWS, bldWS])), ?_⟩
    rw [brk0]
    repeat' (first | (with_reducible first | refine W ?_ | refine Wz0 ?_) | ((with_reducible first | refine Wo (fun K hK => ?_) | refine Wp ?_ | refine Wq ?_ | refine Wr ?_); (try simp only [go_sem, fN, seval, eT, iR, dn_wdone, wdone, hiw_ne, low_ne, hb, hr, hi, hni, n4, n901, n902, hbr, hrb, hbi, hib, hbn, hnb, hri, hir, hrn, hnr, hin, hnj, dn_bldWS, bldWS, hlen, hl2, hl3, dT, dF, nL]); (repeat with_reducible refine Ai ?_); (try (refine hK _ ?_; clear hK K)); (try with_reducible refine iC ?_)))
    refine ⟨_, _, writeByteW_S (bldW_mkU (bs := bs ++ ⟨#[40]⟩ ++ (⟨#[92]⟩ ++ nm ++ ⟨#[46]⟩) ++ s) (c := .part 901 ns.length (ns.length + 1)) (o := o) hbr (.inr rfl) (by simp only [go_sem, fN, seval, eT, iR, hiw_ne, low_ne, hb, hr, hi, hni, n4, n901, n902, hbr, hrb, hbi, hib, hbn, hnb, hri, hir, hrn, hnr, hin, hnj, dn_bldWS, bldWS, sb, sr]) (by simp only [go_sem, fN, seval, eT, iR, hiw_ne, low_ne, hb, hr, hi, hni, n4, n901, n902, hbr, hrb, hbi, hib, hbn, hnb, hri, hir, hrn, hnr, hin, hnj, dn_bldWS, bldWS, sb, sr])) 41 (by first | omega | (simp only [ByteArray.size_append] at *; omega)), ?_⟩
    repeat' (first | (with_reducible first | refine W ?_ | refine Wz0 ?_) | ((with_reducible first | refine Wo (fun K hK => ?_) | refine Wp ?_ | refine Wq ?_ | refine Wr ?_); (try simp only [go_sem, fN, seval, eT, iR, hiw_ne, low_ne, hb, hr, hi, hni, n4, n901, n902, hbr, hrb, hbi, hib, hbn, hnb, hri, hir, hrn, hnr, hin, hnj, dn_bldWS, bldWS, hlen, hl2, hl3, dT, dF, nL]); (repeat with_reducible refine Ai ?_); (try (refine hK _ ?_; clear hK K)); (try with_reducible refine iC ?_)))
    rw [← hW]
    refine wend hS trivial hb hr hi (j := 901) (xs := ns ++ [nm]) (c := .part 901 ns.length (ns ++ [nm]).length) ?_ ?_ ?_ (by first | omega | (simp only [List.length_append, List.length_cons, List.length_nil]; omega)) (by first | exact .inl rfl | exact .inr ⟨rfl, rfl⟩) (by simp) ?_ hbn hrn hrb (by omega) hni (.inr ⟨by decide, ?_, hin, hib, hir⟩) fun k k1 k2 k3 k4 => ?_
    · simp only [go_sem, fN, seval, eT, iR, hiw_ne, low_ne, hb, hr, hi, hni, n4, n901, n902, hbr, hrb, hbi, hib, hbn, hnb, hri, hir, hrn, hnr, hin, hnj, dn_bldWS, bldWS, hlen]
    · simp only [go_sem, fN, seval, eT, iR, hiw_ne, low_ne, hb, hr, hi, hni, n4, n901, n902, hbr, hrb, hbi, hib, hbn, hnb, hri, hir, hrn, hnr, hin, hnj, dn_bldWS, bldWS]
    · simp only [go_sem, fN, seval, eT, iR, hiw_ne, low_ne, hb, hr, hi, hni, n4, n901, n902, hbr, hrb, hbi, hib, hbn, hnb, hri, hir, hrn, hnr, hin, hnj, dn_bldWS, bldWS]
    · simp only [go_sem, fN, seval, eT, iR, hiw_ne, low_ne, hb, hr, hi, hni, n4, n901, n902, hbr, hrb, hbi, hib, hbn, hnb, hri, hir, hrn, hnr, hin, hnj, dn_bldWS, bldWS, sni]
    · simp only [go_sem, fN, seval, eT, iR, hiw_ne, low_ne, hb, hr, hi, hni, n4, n901, n902, hbr, hrb, hbi, hib, hbn, hnb, hri, hir, hrn, hnr, hin, hnj, dn_bldWS, bldWS]
    · simp only [go_sem, fN, seval, eT, iR, hiw_ne, low_ne, k1, k2, k3, k4, dn_bldWS, bldWS]
  · have hbk : bs ++ brk (brP (.l t) place) (⟨#[92]⟩ ++ nm ++ ⟨#[46]⟩ ++ s) = bs ++ (⟨#[92]⟩ ++ nm ++ ⟨#[46]⟩) ++ s := by
      unfold brP brk
      rw [if_neg]
      · simp only [ByteArray.append_assoc]
      · simp [Lm.l, Lm.kind, hp0]
    rw [hbk]
    obtain ⟨Sd, hW⟩ : ∃ Sd, wdone S b r i ni N ns (bs ++ (⟨#[92]⟩ ++ nm ++ ⟨#[46]⟩) ++ s) o = Sd := ⟨_, rfl⟩
    rw [hW]
    repeat' (first | (with_reducible first | refine W ?_ | refine Wz0 ?_) | refine Cg _ (itoaS_a (ns.length - o) (by omega)) ?_ | ((with_reducible first | refine Wo (fun K hK => ?_) | refine Wp ?_ | refine Wq ?_ | refine Wr ?_); (try simp only [go_sem, fN, seval, eT, iR, AS.startS, hiw_ne, low_ne, hb, hr, hi, hni, n4, n901, n902, hbr, hrb, hbi, hib, hbn, hnb, hri, hir, hrn, hnr, hin, hnj, dn_bldWS, bldWS, sb, sr, si, Lm.l, Lm.kind_mk, Lm.idx_mk, Lm.subs_mk, hp0, hsub, hx, h120, h92, h46, dT, dF, nL]); (repeat with_reducible refine Ai ?_); (try (refine hK _ ?_; clear hK K)); (try with_reducible refine iC ?_)))
    refine ⟨_, _, writeStringW_S (bldW_mkU (bs := bs) (c := .row i ns.length) (o := o) hbr hp (by simp only [go_sem, fN, seval, eT, iR, hiw_ne, low_ne, hb, hr, hi, hni, n4, n901, n902, hbr, hrb, hbi, hib, hbn, hnb, hri, hir, hrn, hnr, hin, hnj, dn_bldWS, bldWS, sb, sr]) (by simp only [go_sem, fN, seval, eT, iR, hiw_ne, low_ne, hb, hr, hi, hni, n4, n901, n902, hbr, hrb, hbi, hib, hbn, hnb, hri, hir, hrn, hnr, hin, hnj, dn_bldWS, bldWS, sb, sr])) (⟨#[92]⟩ ++ nm ++ ⟨#[46]⟩) (by first | omega | (simp only [ByteArray.size_append] at *; omega)), ?_⟩
    repeat' (first | (with_reducible first | refine W ?_ | refine Wz0 ?_) | ((with_reducible first | refine Wo (fun K hK => ?_) | refine Wp ?_ | refine Wq ?_ | refine Wr ?_); (try simp only [go_sem, fN, seval, eT, iR, hiw_ne, low_ne, hb, hr, hi, hni, n4, n901, n902, hbr, hrb, hbi, hib, hbn, hnb, hri, hir, hrn, hnr, hin, hnj, dn_bldWS, bldWS, sb, sr, si, Lm.l, Lm.kind_mk, Lm.idx_mk, Lm.subs_mk, hml, dT, dF, nL]); (repeat with_reducible refine Ai ?_); (try (refine hK _ ?_; clear hK K)); (try with_reducible refine iC ?_)))
    refine ⟨_, _, ih 0 (bs ++ (⟨#[92]⟩ ++ nm ++ ⟨#[46]⟩)) _ (up1 b) (up1 r) (up1 i) (up1 901) N _ (by decide) (by omega) hN2 (by simp only [ByteArray.size_append]; omega) (up1_le _) (up1_le _) (up1_le _) (up1_le _) (.inr rfl) (up_boxW (by simp only [go_sem, fN, seval, eT, iR, hiw_ne, low_ne, hb, hr, hi, hni, n4, n901, n902, hbr, hrb, hbi, hib, hbn, hnb, hri, hir, hrn, hnr, hin, hnj, dn_bldWS, bldWS, hlen])) (up_mrowW (by simp only [go_sem, fN, seval, eT, iR, hiw_ne, low_ne, hb, hr, hi, hni, n4, n901, n902, hbr, hrb, hbi, hib, hbn, hnb, hri, hir, hrn, hnr, hin, hnj, dn_bldWS, bldWS])) (up_rowW (by simp only [go_sem, fN, seval, eT, iR, hiw_ne, low_ne, hb, hr, hi, hni, n4, n901, n902, hbr, hrb, hbi, hib, hbn, hnb, hri, hir, hrn, hnr, hin, hnj, dn_bldWS, bldWS, hmap, rowW])) (up_noneW (by simp only [go_sem, fN, seval, eT, iR, hiw_ne, low_ne, hb, hr, hi, hni, n4, n901, n902, hbr, hrb, hbi, hib, hbn, hnb, hri, hir, hrn, hnr, hin, hnj, dn_bldWS, bldWS])), ?_⟩
    rw [brk0]
    repeat' (first | (with_reducible first | refine W ?_ | refine Wz0 ?_) | ((with_reducible first | refine Wo (fun K hK => ?_) | refine Wp ?_ | refine Wq ?_ | refine Wr ?_); (try simp only [go_sem, fN, seval, eT, iR, dn_wdone, wdone, hiw_ne, low_ne, hb, hr, hi, hni, n4, n901, n902, hbr, hrb, hbi, hib, hbn, hnb, hri, hir, hrn, hnr, hin, hnj, dn_bldWS, bldWS, hlen, hl2, hl3, dT, dF, nL]); (repeat with_reducible refine Ai ?_); (try (refine hK _ ?_; clear hK K)); (try with_reducible refine iC ?_)))
    rw [← hW]
    refine wend hS trivial hb hr hi (j := 901) (xs := ns ++ [nm]) (c := .part 901 ns.length (ns ++ [nm]).length) ?_ ?_ ?_ (by first | omega | (simp only [List.length_append, List.length_cons, List.length_nil]; omega)) (by first | exact .inl rfl | exact .inr ⟨rfl, rfl⟩) (by simp) ?_ hbn hrn hrb (by omega) hni (.inr ⟨by decide, ?_, hin, hib, hir⟩) fun k k1 k2 k3 k4 => ?_
    · simp only [go_sem, fN, seval, eT, iR, hiw_ne, low_ne, hb, hr, hi, hni, n4, n901, n902, hbr, hrb, hbi, hib, hbn, hnb, hri, hir, hrn, hnr, hin, hnj, dn_bldWS, bldWS, hlen]
    · simp only [go_sem, fN, seval, eT, iR, hiw_ne, low_ne, hb, hr, hi, hni, n4, n901, n902, hbr, hrb, hbi, hib, hbn, hnb, hri, hir, hrn, hnr, hin, hnj, dn_bldWS, bldWS]
    · simp only [go_sem, fN, seval, eT, iR, hiw_ne, low_ne, hb, hr, hi, hni, n4, n901, n902, hbr, hrb, hbi, hib, hbn, hnb, hri, hir, hrn, hnr, hin, hnj, dn_bldWS, bldWS]
    · simp only [go_sem, fN, seval, eT, iR, hiw_ne, low_ne, hb, hr, hi, hni, n4, n901, n902, hbr, hrb, hbi, hib, hbn, hnb, hri, hir, hrn, hnr, hin, hnj, dn_bldWS, bldWS, sni]
    · simp only [go_sem, fN, seval, eT, iR, hiw_ne, low_ne, hb, hr, hi, hni, n4, n901, n902, hbr, hrb, hbi, hib, hbn, hnb, hri, hir, hrn, hnr, hin, hnj, dn_bldWS, bldWS]
    · simp only [go_sem, fN, seval, eT, iR, hiw_ne, low_ne, k1, k2, k3, k4, dn_bldWS, bldWS]
set_option maxRecDepth 100000 in
theorem write_a {o : Nat} {ns : List ByteArray} {f x : Lm} {s t : ByteArray} (ihf : WrS o ns f s) (ihx : WrS o ns x t) : WrS o ns (.a f x) (brk (decide (f.kind = 2)) s ++ ⟨#[32]⟩ ++ brk (decide (x.kind = 2 ∨ x.kind = 3)) t) := by
  intro place bs p b r i ni N S hpl hN hN2 hz hb hr hi hni hp sb sr si sni
  have hbr : ¬ b = r := fun e => by subst e; rw [sb] at sr; cases sr
  have hbi : ¬ b = i := fun e => by subst e; rw [sb] at si; cases si
  have hbn : ¬ b = ni := fun e => by subst e; rw [sb] at sni; cases sni
  have hri : ¬ r = i := fun e => by subst e; rw [sr] at si; injection si with si; injection si with si; exact absurd si (by decide)
  have hrn : ¬ r = ni := fun e => by subst e; rw [sr] at sni; cases sni
  have hin : ¬ i = ni := fun e => by subst e; rw [si] at sni; cases sni
  have hrb : ¬ r = b := fun e => hbr e.symm
  have hib : ¬ i = b := fun e => hbi e.symm
  have hnb : ¬ ni = b := fun e => hbn e.symm
  have hir : ¬ i = r := fun e => hri e.symm
  have hnr : ¬ ni = r := fun e => hrn e.symm
  have hnj : ¬ ni = i := fun e => hin e.symm
  rw [Lm.size_a] at hN hz
  refine ok_metaprune_lambda_writer_write.acS fun hS C hC => ?_
  unfold ir_metaprune_lambda_writer_write
  have n4 : S 4 = none := clean_none hS (by omega)
  have n901 : S 901 = none := clean_none hS (by omega)
  have n902 : S 902 = none := clean_none hS (by omega)
  have h32 : (⟨#[32]⟩ : ByteArray).size = 1 := rfl
  have h40 : (⟨#[40]⟩ : ByteArray).size = 1 := rfl
  have h41 : (⟨#[41]⟩ : ByteArray).size = 1 := rfl
  have hlen : ns.length = ns.length := rfl
  have hbf : brk (decide (f.kind = 2)) s = brk (brP f 1) s := by
    unfold brP
    congr 1
    simp
  have hbx : brk (decide (x.kind = 2 ∨ x.kind = 3)) t = brk (brP x 2) t := by
    unfold brP
    congr 1
    simp
  simp only [ByteArray.size_append] at hz
  rw [hbf, hbx] at hz
  rw [hbf, hbx]
  clear hbf hbx
  have hs1 := brk_size (brP f 1) s
  have ht1 := brk_size (brP x 2) t
  generalize hS1 : brk (brP f 1) s = s1 at *
  generalize hT1 : brk (brP x 2) t = t1 at *
  obtain ⟨p1, hp1, sb1⟩ := up_boxWp (S := S) (b := b) (i := i) (p := p) hp sb
  by_cases hp0 : 1 < place
  · have hbk : bs ++ brk (brP (.a f x) place) (s1 ++ ⟨#[32]⟩ ++ t1) = bs ++ ⟨#[40]⟩ ++ s1 ++ ⟨#[32]⟩ ++ t1 ++ ⟨#[41]⟩ := by
      unfold brP brk
      rw [if_pos]
      · simp only [ByteArray.append_assoc]
      · simp [Lm.a, Lm.kind, hp0]
    rw [hbk]
    obtain ⟨Sd, hW⟩ : ∃ Sd, wdone S b r i ni N ns (bs ++ ⟨#[40]⟩ ++ s1 ++ ⟨#[32]⟩ ++ t1 ++ ⟨#[41]⟩) o = Sd := ⟨_, rfl⟩
    rw [hW]
    repeat' (first | (with_reducible first | refine W ?_ | refine Wz0 ?_) | ((with_reducible first | refine Wo (fun K hK => ?_) | refine Wp ?_ | refine Wq ?_ | refine Wr ?_); (try simp only [go_sem, fN, seval, eT, iR, AS.startS, hiw_ne, low_ne, hb, hr, hi, hni, n4, n901, n902, hbr, hrb, hbi, hib, hbn, hnb, hri, hir, hrn, hnr, hin, hnj, dn_bldWS, bldWS, sb, sr, si, Lm.a, Lm.kind_mk, Lm.idx_mk, Lm.subs_mk, hp0, dT, dF, nL]); (repeat with_reducible refine Ai ?_); (try (refine hK _ ?_; clear hK K)); (try with_reducible refine iC ?_)))
    refine ⟨_, _, writeByteW_S (bldW_mkU (bs := bs) (c := .row i ns.length) (o := o) hbr hp (by simp only [go_sem, fN, seval, eT, iR, hiw_ne, low_ne, hb, hr, hi, hni, n4, n901, n902, hbr, hrb, hbi, hib, hbn, hnb, hri, hir, hrn, hnr, hin, hnj, dn_bldWS, bldWS, sb, sr]) (by simp only [go_sem, fN, seval, eT, iR, hiw_ne, low_ne, hb, hr, hi, hni, n4, n901, n902, hbr, hrb, hbi, hib, hbn, hnb, hri, hir, hrn, hnr, hin, hnj, dn_bldWS, bldWS, sb, sr])) 40 (by first | omega | (simp only [ByteArray.size_append] at *; omega)), ?_⟩
    repeat' (first | (with_reducible first | refine W ?_ | refine Wz0 ?_) | ((with_reducible first | refine Wo (fun K hK => ?_) | refine Wp ?_ | refine Wq ?_ | refine Wr ?_); (try simp only [go_sem, fN, seval, eT, iR, AS.startS, hiw_ne, low_ne, hb, hr, hi, hni, n4, n901, n902, hbr, hrb, hbi, hib, hbn, hnb, hri, hir, hrn, hnr, hin, hnj, dn_bldWS, bldWS, sb, sr, si, Lm.a, Lm.kind_mk, Lm.idx_mk, Lm.subs_mk, hp0, dT, dF, nL]); (repeat with_reducible refine Ai ?_); (try (refine hK _ ?_; clear hK K)); (try with_reducible refine iC ?_)))
    have hc1 := ihf 1 (bs ++ ⟨#[40]⟩) (.ptr (up1 b) 1 0 0) (up1 b) (up1 r) (up1 i) (up1 901) N
    rw [hS1] at hc1
    refine ⟨_, _, hc1 _ (by decide) (by omega) hN2 (by simp only [ByteArray.size_append]; omega) (up1_le _) (up1_le _) (up1_le _) (up1_le _) (.inr rfl) (up_boxW (by simp only [go_sem, fN, seval, eT, iR, hiw_ne, low_ne, hb, hr, hi, hni, n4, n901, n902, hbr, hrb, hbi, hib, hbn, hnb, hri, hir, hrn, hnr, hin, hnj, dn_bldWS, bldWS])) (up_mrowW (by simp only [go_sem, fN, seval, eT, iR, hiw_ne, low_ne, hb, hr, hi, hni, n4, n901, n902, hbr, hrb, hbi, hib, hbn, hnb, hri, hir, hrn, hnr, hin, hnj, dn_bldWS, bldWS])) (up_rowW (by simp only [go_sem, fN, seval, eT, iR, hiw_ne, low_ne, hb, hr, hi, hni, n4, n901, n902, hbr, hrb, hbi, hib, hbn, hnb, hri, hir, hrn, hnr, hin, hnj, dn_bldWS, bldWS, si])) (up_noneW (by simp only [go_sem, fN, seval, eT, iR, hiw_ne, low_ne, hb, hr, hi, hni, n4, n901, n902, hbr, hrb, hbi, hib, hbn, hnb, hri, hir, hrn, hnr, hin, hnj, dn_bldWS, bldWS])), ?_⟩
    repeat' (first | (with_reducible first | refine W ?_ | refine Wz0 ?_) | ((with_reducible first | refine Wo (fun K hK => ?_) | refine Wp ?_ | refine Wq ?_ | refine Wr ?_); (try simp only [go_sem, fN, seval, eT, iR, dn_wdone, wdone, hiw_ne, low_ne, hb, hr, hi, hni, n4, n901, n902, hbr, hrb, hbi, hib, hbn, hnb, hri, hir, hrn, hnr, hin, hnj, dn_bldWS, bldWS, hp0, dT, dF, nL]); (repeat with_reducible refine Ai ?_); (try (refine hK _ ?_; clear hK K)); (try with_reducible refine iC ?_)))
    refine ⟨_, _, writeByteW_S (bldW_mkU (bs := bs ++ ⟨#[40]⟩ ++ s1) (c := .row 901 ns.length) (o := o) hbr (.inr rfl) (by simp only [go_sem, fN, seval, eT, iR, hiw_ne, low_ne, hb, hr, hi, hni, n4, n901, n902, hbr, hrb, hbi, hib, hbn, hnb, hri, hir, hrn, hnr, hin, hnj, dn_bldWS, bldWS, sb, sr]) (by simp only [go_sem, fN, seval, eT, iR, hiw_ne, low_ne, hb, hr, hi, hni, n4, n901, n902, hbr, hrb, hbi, hib, hbn, hnb, hri, hir, hrn, hnr, hin, hnj, dn_bldWS, bldWS, sb, sr])) 32 (by first | omega | (simp only [ByteArray.size_append] at *; omega)), ?_⟩
    repeat' (first | (with_reducible first | refine W ?_ | refine Wz0 ?_) | ((with_reducible first | refine Wo (fun K hK => ?_) | refine Wp ?_ | refine Wq ?_ | refine Wr ?_); (try simp only [go_sem, fN, seval, eT, iR, AS.startS, hiw_ne, low_ne, hb, hr, hi, hni, n4, n901, n902, hbr, hrb, hbi, hib, hbn, hnb, hri, hir, hrn, hnr, hin, hnj, dn_bldWS, bldWS, sb, sr, si, Lm.a, Lm.kind_mk, Lm.idx_mk, Lm.subs_mk, hp0, dT, dF, nL]); (repeat with_reducible refine Ai ?_); (try (refine hK _ ?_; clear hK K)); (try with_reducible refine iC ?_)))
    have hc2 := ihx 2 (bs ++ ⟨#[40]⟩ ++ s1 ++ ⟨#[32]⟩) (.ptr (up1 b) 1 0 0) (up1 b) (up1 r) (up1 901) (up1 902) N
    rw [hT1] at hc2
    refine ⟨_, _, hc2 _ (by decide) (by omega) hN2 (by simp only [ByteArray.size_append]; omega) (up1_le _) (up1_le _) (up1_le _) (up1_le _) (.inr rfl) (up_boxW (by simp only [go_sem, fN, seval, eT, iR, hiw_ne, low_ne, hb, hr, hi, hni, n4, n901, n902, hbr, hrb, hbi, hib, hbn, hnb, hri, hir, hrn, hnr, hin, hnj, dn_bldWS, bldWS])) (up_mrowW (by simp only [go_sem, fN, seval, eT, iR, hiw_ne, low_ne, hb, hr, hi, hni, n4, n901, n902, hbr, hrb, hbi, hib, hbn, hnb, hri, hir, hrn, hnr, hin, hnj, dn_bldWS, bldWS])) (up_rowW (by simp only [go_sem, fN, seval, eT, iR, hiw_ne, low_ne, hb, hr, hi, hni, n4, n901, n902, hbr, hrb, hbi, hib, hbn, hnb, hri, hir, hrn, hnr, hin, hnj, dn_bldWS, bldWS])) (up_noneW (by simp only [go_sem, fN, seval, eT, iR, hiw_ne, low_ne, hb, hr, hi, hni, n4, n901, n902, hbr, hrb, hbi, hib, hbn, hnb, hri, hir, hrn, hnr, hin, hnj, dn_bldWS, bldWS])), ?_⟩
    repeat' (first | (with_reducible first | refine W ?_ | refine Wz0 ?_) | ((with_reducible first | refine Wo (fun K hK => ?_) | refine Wp ?_ | refine Wq ?_ | refine Wr ?_); (try simp only [go_sem, fN, seval, eT, iR, dn_wdone, wdone, hiw_ne, low_ne, hb, hr, hi, hni, n4, n901, n902, hbr, hrb, hbi, hib, hbn, hnb, hri, hir, hrn, hnr, hin, hnj, dn_bldWS, bldWS, hp0, dT, dF, nL]); (repeat with_reducible refine Ai ?_); (try (refine hK _ ?_; clear hK K)); (try with_reducible refine iC ?_)))
    refine ⟨_, _, writeByteW_S (bldW_mkU (bs := bs ++ ⟨#[40]⟩ ++ s1 ++ ⟨#[32]⟩ ++ t1) (c := .row 902 ns.length) (o := o) hbr (.inr rfl) (by simp only [go_sem, fN, seval, eT, iR, hiw_ne, low_ne, hb, hr, hi, hni, n4, n901, n902, hbr, hrb, hbi, hib, hbn, hnb, hri, hir, hrn, hnr, hin, hnj, dn_bldWS, bldWS, sb, sr]) (by simp only [go_sem, fN, seval, eT, iR, hiw_ne, low_ne, hb, hr, hi, hni, n4, n901, n902, hbr, hrb, hbi, hib, hbn, hnb, hri, hir, hrn, hnr, hin, hnj, dn_bldWS, bldWS, sb, sr])) 41 (by first | omega | (simp only [ByteArray.size_append] at *; omega)), ?_⟩
    repeat' (first | (with_reducible first | refine W ?_ | refine Wz0 ?_) | ((with_reducible first | refine Wo (fun K hK => ?_) | refine Wp ?_ | refine Wq ?_ | refine Wr ?_); (try simp only [go_sem, fN, seval, eT, iR, AS.startS, hiw_ne, low_ne, hb, hr, hi, hni, n4, n901, n902, hbr, hrb, hbi, hib, hbn, hnb, hri, hir, hrn, hnr, hin, hnj, dn_bldWS, bldWS, dT, dF, nL]); (repeat with_reducible refine Ai ?_); (try (refine hK _ ?_; clear hK K)); (try with_reducible refine iC ?_)))
    rw [← hW]
    refine wend hS trivial hb hr hi (j := 902) (xs := ns) (c := .row 902 ns.length) ?_ ?_ ?_ (by first | omega | (simp only [List.length_append, List.length_cons, List.length_nil]; omega)) (by first | exact .inl rfl | exact .inr ⟨rfl, rfl⟩) (by simp) ?_ hbn hrn hrb (by omega) hni (.inr ⟨by decide, ?_, hin, hib, hir⟩) fun k k1 k2 k3 k4 => ?_
    · simp only [go_sem, fN, seval, eT, iR, hiw_ne, low_ne, hb, hr, hi, hni, n4, n901, n902, hbr, hrb, hbi, hib, hbn, hnb, hri, hir, hrn, hnr, hin, hnj, dn_bldWS, bldWS, hlen]
    · simp only [go_sem, fN, seval, eT, iR, hiw_ne, low_ne, hb, hr, hi, hni, n4, n901, n902, hbr, hrb, hbi, hib, hbn, hnb, hri, hir, hrn, hnr, hin, hnj, dn_bldWS, bldWS]
    · simp only [go_sem, fN, seval, eT, iR, hiw_ne, low_ne, hb, hr, hi, hni, n4, n901, n902, hbr, hrb, hbi, hib, hbn, hnb, hri, hir, hrn, hnr, hin, hnj, dn_bldWS, bldWS]
    · simp only [go_sem, fN, seval, eT, iR, hiw_ne, low_ne, hb, hr, hi, hni, n4, n901, n902, hbr, hrb, hbi, hib, hbn, hnb, hri, hir, hrn, hnr, hin, hnj, dn_bldWS, bldWS, sni]
    · simp only [go_sem, fN, seval, eT, iR, hiw_ne, low_ne, hb, hr, hi, hni, n4, n901, n902, hbr, hrb, hbi, hib, hbn, hnb, hri, hir, hrn, hnr, hin, hnj, dn_bldWS, bldWS]
    · simp only [go_sem, fN, seval, eT, iR, hiw_ne, low_ne, k1, k2, k3, k4, dn_bldWS, bldWS]
  · have hbk : bs ++ brk (brP (.a f x) place) (s1 ++ ⟨#[32]⟩ ++ t1) = bs ++ s1 ++ ⟨#[32]⟩ ++ t1 := by
      unfold brP brk
      rw [if_neg]
      · simp only [ByteArray.append_assoc]
      · simp [Lm.a, Lm.kind, hp0]
    rw [hbk]
    obtain ⟨Sd, hW⟩ : ∃ Sd, wdone S b r i ni N ns (bs ++ s1 ++ ⟨#[32]⟩ ++ t1) o = Sd := ⟨_, rfl⟩
    rw [hW]
    repeat' (first | (with_reducible first | refine W ?_ | refine Wz0 ?_) | ((with_reducible first | refine Wo (fun K hK => ?_) | refine Wp ?_ | refine Wq ?_ | refine Wr ?_); (try simp only [go_sem, fN, seval, eT, iR, AS.startS, hiw_ne, low_ne, hb, hr, hi, hni, n4, n901, n902, hbr, hrb, hbi, hib, hbn, hnb, hri, hir, hrn, hnr, hin, hnj, dn_bldWS, bldWS, sb, sr, si, Lm.a, Lm.kind_mk, Lm.idx_mk, Lm.subs_mk, hp0, dT, dF, nL]); (repeat with_reducible refine Ai ?_); (try (refine hK _ ?_; clear hK K)); (try with_reducible refine iC ?_)))
    have hc1 := fun S' => ihf 1 bs p1 (up1 b) (up1 r) (up1 i) (up1 901) N S'
    rw [hS1] at hc1
    have sbx : ∀ S' : AStore, S' b = some (boxW p r bs.size (.row i ns.length) o) → upS S' (up1 b) = some (boxW p1 (up1 r) bs.size (.row (up1 i) ns.length) o) := fun S' h => by rw [upS_up, h, ← sb, ← upS_up, sb1]
    refine ⟨_, _, hc1 _ (by decide) (by omega) hN2 (by omega) (up1_le _) (up1_le _) (up1_le _) (up1_le _) hp1 (sbx _ (by simp only [go_sem, fN, seval, eT, iR, hiw_ne, low_ne, hb, hr, hi, hni, n4, n901, n902, hbr, hrb, hbi, hib, hbn, hnb, hri, hir, hrn, hnr, hin, hnj, dn_bldWS, bldWS, sb])) (up_mrowW (by simp only [go_sem, fN, seval, eT, iR, hiw_ne, low_ne, hb, hr, hi, hni, n4, n901, n902, hbr, hrb, hbi, hib, hbn, hnb, hri, hir, hrn, hnr, hin, hnj, dn_bldWS, bldWS, sr])) (up_rowW (by simp only [go_sem, fN, seval, eT, iR, hiw_ne, low_ne, hb, hr, hi, hni, n4, n901, n902, hbr, hrb, hbi, hib, hbn, hnb, hri, hir, hrn, hnr, hin, hnj, dn_bldWS, bldWS, si])) (up_noneW (by simp only [go_sem, fN, seval, eT, iR, hiw_ne, low_ne, hb, hr, hi, hni, n4, n901, n902, hbr, hrb, hbi, hib, hbn, hnb, hri, hir, hrn, hnr, hin, hnj, dn_bldWS, bldWS])), ?_⟩
    repeat' (first | (with_reducible first | refine W ?_ | refine Wz0 ?_) | ((with_reducible first | refine Wo (fun K hK => ?_) | refine Wp ?_ | refine Wq ?_ | refine Wr ?_); (try simp only [go_sem, fN, seval, eT, iR, dn_wdone, wdone, hiw_ne, low_ne, hb, hr, hi, hni, n4, n901, n902, hbr, hrb, hbi, hib, hbn, hnb, hri, hir, hrn, hnr, hin, hnj, dn_bldWS, bldWS, hp0, dT, dF, nL]); (repeat with_reducible refine Ai ?_); (try (refine hK _ ?_; clear hK K)); (try with_reducible refine iC ?_)))
    refine ⟨_, _, writeByteW_S (bldW_mkU (bs := bs ++ s1) (c := .row 901 ns.length) (o := o) hbr (.inr rfl) (by simp only [go_sem, fN, seval, eT, iR, hiw_ne, low_ne, hb, hr, hi, hni, n4, n901, n902, hbr, hrb, hbi, hib, hbn, hnb, hri, hir, hrn, hnr, hin, hnj, dn_bldWS, bldWS, sb, sr]) (by simp only [go_sem, fN, seval, eT, iR, hiw_ne, low_ne, hb, hr, hi, hni, n4, n901, n902, hbr, hrb, hbi, hib, hbn, hnb, hri, hir, hrn, hnr, hin, hnj, dn_bldWS, bldWS, sb, sr])) 32 (by first | omega | (simp only [ByteArray.size_append] at *; omega)), ?_⟩
    repeat' (first | (with_reducible first | refine W ?_ | refine Wz0 ?_) | ((with_reducible first | refine Wo (fun K hK => ?_) | refine Wp ?_ | refine Wq ?_ | refine Wr ?_); (try simp only [go_sem, fN, seval, eT, iR, AS.startS, hiw_ne, low_ne, hb, hr, hi, hni, n4, n901, n902, hbr, hrb, hbi, hib, hbn, hnb, hri, hir, hrn, hnr, hin, hnj, dn_bldWS, bldWS, sb, sr, si, Lm.a, Lm.kind_mk, Lm.idx_mk, Lm.subs_mk, hp0, dT, dF, nL]); (repeat with_reducible refine Ai ?_); (try (refine hK _ ?_; clear hK K)); (try with_reducible refine iC ?_)))
    have hc2 := ihx 2 (bs ++ s1 ++ ⟨#[32]⟩) (.ptr (up1 b) 1 0 0) (up1 b) (up1 r) (up1 901) (up1 902) N
    rw [hT1] at hc2
    refine ⟨_, _, hc2 _ (by decide) (by omega) hN2 (by simp only [ByteArray.size_append]; omega) (up1_le _) (up1_le _) (up1_le _) (up1_le _) (.inr rfl) (up_boxW (by simp only [go_sem, fN, seval, eT, iR, hiw_ne, low_ne, hb, hr, hi, hni, n4, n901, n902, hbr, hrb, hbi, hib, hbn, hnb, hri, hir, hrn, hnr, hin, hnj, dn_bldWS, bldWS])) (up_mrowW (by simp only [go_sem, fN, seval, eT, iR, hiw_ne, low_ne, hb, hr, hi, hni, n4, n901, n902, hbr, hrb, hbi, hib, hbn, hnb, hri, hir, hrn, hnr, hin, hnj, dn_bldWS, bldWS])) (up_rowW (by simp only [go_sem, fN, seval, eT, iR, hiw_ne, low_ne, hb, hr, hi, hni, n4, n901, n902, hbr, hrb, hbi, hib, hbn, hnb, hri, hir, hrn, hnr, hin, hnj, dn_bldWS, bldWS])) (up_noneW (by simp only [go_sem, fN, seval, eT, iR, hiw_ne, low_ne, hb, hr, hi, hni, n4, n901, n902, hbr, hrb, hbi, hib, hbn, hnb, hri, hir, hrn, hnr, hin, hnj, dn_bldWS, bldWS])), ?_⟩
    repeat' (first | (with_reducible first | refine W ?_ | refine Wz0 ?_) | ((with_reducible first | refine Wo (fun K hK => ?_) | refine Wp ?_ | refine Wq ?_ | refine Wr ?_); (try simp only [go_sem, fN, seval, eT, iR, dn_wdone, wdone, hiw_ne, low_ne, hb, hr, hi, hni, n4, n901, n902, hbr, hrb, hbi, hib, hbn, hnb, hri, hir, hrn, hnr, hin, hnj, dn_bldWS, bldWS, hp0, dT, dF, nL]); (repeat with_reducible refine Ai ?_); (try (refine hK _ ?_; clear hK K)); (try with_reducible refine iC ?_)))
    rw [← hW]
    refine wend hS trivial hb hr hi (j := 902) (xs := ns) (c := .row 902 ns.length) ?_ ?_ ?_ (by first | omega | (simp only [List.length_append, List.length_cons, List.length_nil]; omega)) (by first | exact .inl rfl | exact .inr ⟨rfl, rfl⟩) (by simp) ?_ hbn hrn hrb (by omega) hni (.inr ⟨by decide, ?_, hin, hib, hir⟩) fun k k1 k2 k3 k4 => ?_
    · simp only [go_sem, fN, seval, eT, iR, hiw_ne, low_ne, hb, hr, hi, hni, n4, n901, n902, hbr, hrb, hbi, hib, hbn, hnb, hri, hir, hrn, hnr, hin, hnj, dn_bldWS, bldWS, hlen]
    · simp only [go_sem, fN, seval, eT, iR, hiw_ne, low_ne, hb, hr, hi, hni, n4, n901, n902, hbr, hrb, hbi, hib, hbn, hnb, hri, hir, hrn, hnr, hin, hnj, dn_bldWS, bldWS]
    · simp only [go_sem, fN, seval, eT, iR, hiw_ne, low_ne, hb, hr, hi, hni, n4, n901, n902, hbr, hrb, hbi, hib, hbn, hnb, hri, hir, hrn, hnr, hin, hnj, dn_bldWS, bldWS]
    · simp only [go_sem, fN, seval, eT, iR, hiw_ne, low_ne, hb, hr, hi, hni, n4, n901, n902, hbr, hrb, hbi, hib, hbn, hnb, hri, hir, hrn, hnr, hin, hnj, dn_bldWS, bldWS, sni]
    · simp only [go_sem, fN, seval, eT, iR, hiw_ne, low_ne, hb, hr, hi, hni, n4, n901, n902, hbr, hrb, hbi, hib, hbn, hnb, hri, hir, hrn, hnr, hin, hnj, dn_bldWS, bldWS]
    · simp only [go_sem, fN, seval, eT, iR, hiw_ne, low_ne, k1, k2, k3, k4, dn_bldWS, bldWS]
theorem write_S {o : Nat} {ns : List ByteArray} {t : Lm} {s : ByteArray} (h : LTx 120 o ns t s) : WrS o ns t s := by
  induction h with
  | v h hn => exact write_v h hn
  | c h => exact write_c h
  | l ho h ih => exact write_l ho ih
  | a hf hx ihf ihx => exact write_a ihf ihx

theorem freeL_ok : ∀ (p l : List ByteArray), freeL p l = 0 → (∀ n ∈ l, nameOk n = true ∧ byteAt n 0 ≠ 120 ∧ byteAt n 0 ≠ 99 ∧ n ∉ p) ∧ l.Nodup
  | _, [], _ => ⟨fun n h => by simp at h, List.nodup_nil⟩
  | p, n :: r, h => by
    rw [freeL] at h
    by_cases h1 : nameOk n = true ∧ byteAt n 0 ≠ 120 ∧ byteAt n 0 ≠ 99
    · rw [if_pos h1] at h
      by_cases h2 : isIn n p = true
      · rw [if_pos h2] at h
        exact absurd h (by decide)
      · rw [if_neg h2] at h
        obtain ⟨q1, q2⟩ := freeL_ok (p ++ [n]) r h
        have hnp : n ∉ p := fun e => h2 (isIn_iff.2 e)
        refine ⟨fun m hm => ?_, List.nodup_cons.2 ⟨fun hn => ?_, q2⟩⟩
        · rcases List.mem_cons.1 hm with rfl | hm
          · exact ⟨h1.1, h1.2.1, h1.2.2, hnp⟩
          · obtain ⟨a, b, c, d⟩ := q1 m hm
            exact ⟨a, b, c, fun e => d (List.mem_append_left _ e)⟩
        · exact (q1 n hn).2.2.2 (by simp)
    · rw [if_neg h1] at h
      exact absurd h (by decide)
theorem freeMay_ok {l : List ByteArray} (h : freeMay l = 0) : l.length ≤ 40 ∧ (∀ n ∈ l, nameOk n = true ∧ byteAt n 0 ≠ 120 ∧ byteAt n 0 ≠ 99) ∧ l.Nodup := by
  unfold freeMay at h
  by_cases h1 : 40 < l.length
  · rw [if_pos h1] at h
    exact absurd h (by decide)
  · rw [if_neg h1] at h
    obtain ⟨q1, q2⟩ := freeL_ok [] l h
    exact ⟨by omega, fun n hn => ⟨(q1 n hn).1, (q1 n hn).2.1, (q1 n hn).2.2.1⟩, q2⟩

theorem cloneW_N (l : List ByteArray) (hl : l.length ≤ 1000000) : ACallsN Tryd.prog 29 [aStrs l] 9 1 (l.map encS) true := by
  unfold ACallsN
  rw [List.length_map]
  refine ok_slices_Clone_string_string.acS fun hS C hC => ?_
  unfold ir_slices_Clone_string_string
  by_cases h0 : l.length = 0
  · have hl : l = [] := List.eq_nil_of_length_eq_zero h0
    subst hl
    repeat' (first | (with_reducible first | refine W ?_ | refine Wz0 ?_) | ((with_reducible first | refine Wo (fun K hK => ?_) | refine Wp ?_ | refine Wq ?_ | refine Wr ?_); (try simp only [go_sem, fN, seval, eT, iR, dT, dF, nL]); (repeat with_reducible refine Ai ?_); (try (refine hK _ ?_; clear hK K)); (try with_reducible refine iC ?_)))
    refine ⟨?_, ?_⟩
    · repeat' (first | (with_reducible first | refine W ?_ | refine Wz0 ?_) | ((with_reducible first | refine Wo (fun K hK => ?_) | refine Wp ?_ | refine Wq ?_ | refine Wr ?_); (try simp only [go_sem, fN, seval, eT, iR, dT, dF, nL]); (repeat with_reducible refine Ai ?_); (try (refine hK _ ?_; clear hK K)); (try with_reducible refine iC ?_)))
      refine finS_ghost (Ghost.ownM (C := C) 2 30 9 1 rfl rfl (by omega)) ?_
      exact finN (mu := true) trivial 30 (by decide) rfl (fun i hi => by show updE _ _ _ _ = _; rw [updE_ne _ (by omega)]; rfl) rfl
    · repeat' (first | (with_reducible first | refine W ?_ | refine Wz0 ?_) | ((with_reducible first | refine Wo (fun K hK => ?_) | refine Wp ?_ | refine Wq ?_ | refine Wr ?_); (try simp only [go_sem, fN, seval, eT, iR, dT, dF, nL]); (repeat with_reducible refine Ai ?_); (try (refine hK _ ?_; clear hK K)); (try with_reducible refine iC ?_)))
      exact finN (mu := true) trivial 7 (by decide) rfl (fun i hi => by show updE _ _ _ _ = _; rw [updE_ne _ (by omega)]; rfl) rfl
  · have hb : l.length * 16 ≤ 140737488355328 := by omega
    repeat' (first | (with_reducible first | refine W ?_ | refine Wz0 ?_) | ((with_reducible first | refine Wo (fun K hK => ?_) | refine Wp ?_ | refine Wq ?_ | refine Wr ?_); (try simp only [go_sem, fN, seval, eT, iR, h0, hb, dT, dF, nL]); (repeat with_reducible refine Ai ?_); (try (refine hK _ ?_; clear hK K)); (try with_reducible refine iC ?_)))
    exact finN (mu := true) trivial 7 (by decide) rfl (fun i hi => by show updE _ _ _ _ = _; rw [updE_ne _ (by omega)]; rfl) rfl
set_option maxRecDepth 100000 in
theorem lshow_a {free : List ByteArray} {t : Lm} {s : ByteArray} (h : LTx 120 free.length free t s) (h0 : 0 < s.size) (hz : s.size + 4 * t.size ≤ 100000000) (hl : free.length + t.size ≤ 900000) : ACalls Tryd.prog 34 [aLm t, aStrs free] (aStr s) := by
  have hw := write_S h
  refine ok_lambda_Show.ac fun C hC => ?_
  unfold ir_lambda_Show
  repeat' (first | (with_reducible first | refine W ?_ | refine Wz0 ?_) | ((with_reducible first | refine Wo (fun K hK => ?_) | refine Wp ?_ | refine Wq ?_ | refine Wr ?_); (try simp only [go_sem, fN, seval, eT, iR, dT, dF, nL]); (repeat with_reducible refine Ai ?_); (try (refine hK _ ?_; clear hK K)); (try with_reducible refine iC ?_)))
  refine CallNG.mk _ _ _ _ (cloneW_N free (by omega)) ⟨rfl, by simp, ?_⟩
  have hml : (free.map encS).length = free.length := by simp
  repeat' (first | (with_reducible first | refine W ?_ | refine Wz0 ?_) | (first | refine IWP.ghost (Ghost.ownCell (e' := u8W) (id := 11) (r := 900) 1 1 rfl rfl rfl (by decide)) ?_) | ((with_reducible first | refine Wo (fun K hK => ?_) | refine Wp ?_ | refine Wq ?_ | refine Wr ?_); (try simp only [go_sem, fN, seval, eT, iR, hml, rowB, dT, dF, nL]); (repeat with_reducible refine Ai ?_); (try (refine hK _ ?_; clear hK K)); (try with_reducible refine iC ?_)))
  have hc := fun S' => hw 0 ⟨#[]⟩ (.st (.lit (.pointer none))) (up1 11) (up1 900) (up1 9) (up1 901) (free.length + t.size + 1) S' (by decide) (by omega) (by omega) (by show 0 + s.size + _ ≤ _; omega) (up1_le _) (up1_le _) (up1_le _) (up1_le _) (.inl rfl)
  rw [brk0] at hc
  have he : ⟨#[]⟩ ++ s = s := ByteArray.empty_append
  rw [he] at hc
  refine ⟨_, _, hc _ (up_boxW0 (r := 900) (i := 9) (n := 0) (m := free.length) (o := free.length) ?_) (up_mrowW (bs := ⟨#[]⟩) ?_) (up_rowW (ns := free) ?_) (up_noneW ?_), ?_⟩
  · rfl
  · rfl
  · rfl
  · rfl
  repeat' (first | (with_reducible first | refine W ?_ | refine Wz0 ?_) | ((with_reducible first | refine Wo (fun K hK => ?_) | refine Wp ?_ | refine Wq ?_ | refine Wr ?_); (try simp only [go_sem, fN, seval, eT, iR, dn_wdone, wdone, dT, dF, nL]); (repeat with_reducible refine Ai ?_); (try (refine hK _ ?_; clear hK K)); (try with_reducible refine iC ?_)))
  refine ⟨_, _, builderStringW_S (bldW_mkU (b := 11) (r := 900) (bs := s) (c := .row 901 free.length) (o := free.length) (by decide) (.inr rfl) (by simp only [go_sem, fN, seval, eT, iR]) (by simp only [go_sem, fN, seval, eT, iR])) h0 (by omega), ?_⟩
  repeat' (first | (with_reducible first | refine W ?_ | refine Wz0 ?_) | ((with_reducible first | refine Wo (fun K hK => ?_) | refine Wp ?_ | refine Wq ?_ | refine Wr ?_); (try simp only [go_sem, fN, seval, eT, iR, dT, dF, nL]); (repeat with_reducible refine Ai ?_); (try (refine hK _ ?_; clear hK K)); (try with_reducible refine iC ?_)))
  simp only [go_sem, fN, seval, FinQ, AS.result, resAll, resOne, tupV]

theorem ltext_ok {t : Lm} {free : List ByteArray} {s : ByteArray} (hf : freeMay free = 0) (hm : t.may 0 free.length = 0) (hs : LTx 120 free.length free t s) (h0 : 0 < s.size) (hz : s.size ≤ 4000) : ACalls Tryd.prog 20 [aLm t, aStrs free] (.tup [aStr s, aInt 0]) := by
  have h200 : t.size ≤ 200 := by
    unfold Lm.may at hm
    split at hm
    · cases hm
    · split at hm
      · cases hm
      · omega
  have h40 := (freeMay_ok hf).1
  have hc := lCheck_a t free.length
  have hn := names_a free
  have hw := lshow_a hs h0 (by omega) (by omega)
  rw [hf] at hn
  rw [hm] at hc
  refine ok_lambda_Text.ac fun C hC => ?_
  unfold ir_lambda_Text
  repeat' (first | (with_reducible first | refine W ?_ | refine Wz0 ?_) | refine Cg _ (hn) ?_ | refine Cg _ (hc) ?_ | refine Cg _ (hw) ?_ | ((with_reducible first | refine Wo (fun K hK => ?_) | refine Wp ?_ | refine Wq ?_ | refine Wr ?_); (try simp only [go_sem, fN, seval, eT, iR, dT, dF, nL]); (repeat with_reducible refine Ai ?_); (try (refine hK _ ?_; clear hK K)); (try with_reducible refine iC ?_)))
  simp only [go_sem, fN, seval, FinQ, AS.result, resAll, resOne, tupV]

def Lm.stepR (t : Lm) : AV := .tup [aLm (t.outer.getD t), aBool t.outer.isSome]
theorem Lm.outer_top {t y : Lm} (h : Lm.top t.kind t.subs = some y) : t.outer = some y := by rw [Lm.outer_eq, h]
theorem Lm.outer_none {t : Lm} (h : Lm.top t.kind t.subs = none) (h2 : Lm.outers t.subs = none) : t.outer = none := by rw [Lm.outer_eq, h, h2]
theorem Lm.outer_some {t : Lm} {ys : List Lm} (h : Lm.top t.kind t.subs = none) (h2 : Lm.outers t.subs = some ys) : t.outer = some (.mk t.kind t.idx ys) := by rw [Lm.outer_eq, h, h2]
theorem lOuter_a (t : Lm) (hw : t.wf) (hg : t.good 1000000000) (hz : t.size ≤ 1000000000) : ACalls Tryd.prog 33 [aLm t] t.stepR := by
  induction h : SizeOf.sizeOf t using Nat.strongRecOn generalizing t with
  | _ N ih =>
  subst h
  have hs := Lm.size_eq t
  have hlen := Lm.length_le t.subs
  unfold Lm.stepR
  rcases Lm.top_cases hw with ⟨f, x, b, h1, h2, h3, h4, h5⟩ | ⟨h5, h6⟩
  · have hr : t.isRed = true := by unfold Lm.isRed; rw [h5]; rfl
    have hf : f ∈ t.subs := by rw [h2]; simp
    have hx : x ∈ t.subs := by rw [h2]; simp
    have hb : b ∈ f.subs := by rw [h4]; simp
    have s1 := Lm.size_sub hf
    have s2 := Lm.size_sub hx
    have s3 := Lm.size_sub hb
    rw [Lm.outer_top h5]
    refine ok_reduce_Outer.ac fun C hC => ?_
    unfold ir_reduce_Outer
    repeat' (first | (with_reducible first | refine W ?_ | refine Wz0 ?_) | refine Cg _ (lRedex_a t hw) ?_ | refine Cg _ (lout_a t f x b h2 h4 (Lm.good_sub (Lm.good_sub hg hf) hb) (Lm.good_sub hg hx) (by omega) (by omega)) ?_ | ((with_reducible first | refine Wo (fun K hK => ?_) | refine Wp ?_ | refine Wq ?_ | refine Wr ?_); (try simp only [go_sem, fN, seval, eT, iR, hr, dT, dF, nL]); (repeat with_reducible refine Ai ?_); (try (refine hK _ ?_; clear hK K)); (try with_reducible refine iC ?_)))
    simp only [go_sem, fN, seval, FinQ, AS.result, resAll, resOne, tupV]
  · have hr : t.isRed = false := by unfold Lm.isRed; rw [h5]; rfl
    refine ok_reduce_Outer.ac fun C hC => ?_
    unfold ir_reduce_Outer
    repeat' (first | (with_reducible first | refine W ?_ | refine Wz0 ?_) | refine Cg _ (lRedex_a t hw) ?_ | ((with_reducible first | refine Wo (fun K hK => ?_) | refine Wp ?_ | refine Wq ?_ | refine Wr ?_); (try simp only [go_sem, fN, seval, eT, iR, hr, dT, dF, nL]); (repeat with_reducible refine Ai ?_); (try (refine hK _ ?_; clear hK K)); (try with_reducible refine iC ?_)))
    refine IWP.loopD [5, 6] (fun n s => ∃ k, k ≤ t.subs.length ∧ n = t.subs.length - k ∧ Lm.outers (t.subs.take k) = none ∧ s.env 1 = .one (.ptr 1 1 0 0) ∧ s.env 2 = .one (.ptr 2 1 0 0) ∧ s.S 1 = some (.box 25 [.st (.int .i64 t.kind), .st (.int .i64 t.idx), .st (.list (t.subs.map encL))]) ∧ s.S 2 = some (.box 25 [.st (.int .i64 0), .st (.int .i64 0), .full []]) ∧ s.env 13 = aLms t.subs ∧ s.env 14 = aInt t.subs.length ∧ s.env 15 = aInt k ∧ s.S 5 = none ∧ s.S 6 = none) t.subs.length ⟨0, Nat.zero_le _, rfl, rfl, rfl, rfl, rfl, rfl, rfl, rfl, rfl, rfl, rfl⟩ ?_
    rintro n ⟨env, S⟩ ⟨k, hk', rfl, hp, e1, e2, s1, s2, e13, e14, e15, s5, s6⟩
    simp only at e1 e2 s1 s2 e13 e14 e15 s5 s6
    by_cases hlt : (k : Int) < t.subs.length
    · obtain ⟨a, ha⟩ := get_lt (show k < t.subs.length by omega)
      have z3 := Lm.size_sub (mem_of_get ha)
      have ih' := ih _ (Lm.lt_of_sub (mem_of_get ha)) a (Lm.wf_sub hw (mem_of_get ha)) (Lm.good_sub hg (mem_of_get ha)) (by omega) rfl
      unfold Lm.stepR at ih'
      cases ho : a.outer with
      | none =>
        rw [ho] at ih'
        repeat' (first | (with_reducible first | refine W ?_ | refine Wz0 ?_) | refine Cg _ (ih') ?_ | ((with_reducible first | refine Wo (fun K hK => ?_) | refine Wp ?_ | refine Wq ?_ | refine Wr ?_); (try simp only [go_sem, fN, seval, eT, iR, e1, e2, s1, s2, e13, e14, e15, s5, s6, ha, hlt, dT, dF, nL]); (repeat with_reducible refine Ai ?_); (try (refine hK _ ?_; clear hK K)); (try with_reducible refine iC ?_)))
        refine then_normal ⟨t.subs.length - (k + 1), by omega, k + 1, by omega, rfl, ?_⟩
        simp only [go_sem, fN, seval, AS.drop, dropS, AC.clears, AC.clear, AC.highs, AC.high, Bool.not_false, Bool.true_and, Bool.and_self, AV.purge, AV.purges, AC.purge, ABlk.purge, List.contains_cons, List.contains_nil, Nat.reduceBEq, Bool.or_self, Bool.or_false, Bool.false_or, Bool.or_true, eT, iR, e1, e2, s1, s2, e13, e14, e15, s5, s6]
        exact ⟨Lm.outers_none ha hp ho, by congr 3⟩
      | some y =>
        rw [ho] at ih'
        rw [Lm.outer_some h5 (Lm.outers_some ha hp ho)]
        repeat' (first | (with_reducible first | refine W ?_ | refine Wz0 ?_) | refine Cg _ (ih') ?_ | refine Cg _ (lwith_a t y k (by omega) (by omega)) ?_ | ((with_reducible first | refine Wo (fun K hK => ?_) | refine Wp ?_ | refine Wq ?_ | refine Wr ?_); (try simp only [go_sem, fN, seval, eT, iR, e1, e2, s1, s2, e13, e14, e15, s5, s6, ha, hlt, dT, dF, nL]); (repeat with_reducible refine Ai ?_); (try (refine hK _ ?_; clear hK K)); (try with_reducible refine iC ?_)))
        simp only [go_sem, fN, seval, FinQ, AS.result, resAll, resOne, tupV, e2]
        try simp [Lm.kind_mk, Lm.idx_mk, Lm.subs_mk]
    · rw [List.take_of_length_le (by omega)] at hp
      rw [Lm.outer_none h5 hp]
      repeat' (first | (with_reducible first | refine W ?_ | refine Wz0 ?_) | ((with_reducible first | refine Wo (fun K hK => ?_) | refine Wp ?_ | refine Wq ?_ | refine Wr ?_); (try simp only [go_sem, fN, seval, eT, iR, e1, e2, s1, s2, e13, e14, e15, s5, s6, hlt, dT, dF, nL]); (repeat with_reducible refine Ai ?_); (try (refine hK _ ?_; clear hK K)); (try with_reducible refine iC ?_)))
      simp only [go_sem, fN, seval, FinQ, AS.result, resAll, resOne, tupV, e2]
      try simp [Lm.kind_mk, Lm.idx_mk, Lm.subs_mk]

abbrev aRun (r : Lm × Int × Int) : AV := .tup [aLm r.1, aInt r.2.1, aInt r.2.2]
theorem lLast_a (t : Lm) (m : Nat) (hm : m ≤ 400) (hw : t.wf) (hz : t.size ≤ 2000) (hg : t.good 1000000) : ACalls Tryd.prog 32 [aLm t, aInt m, .one (.fn 33 [])] (aRun (Lm.run m 0 t)) := by
  refine ok_reduce_Last.ac fun C hC => ?_
  unfold ir_reduce_Last
  repeat' (first | (with_reducible first | refine W ?_ | refine Wz0 ?_) | ((with_reducible first | refine Wo (fun K hK => ?_) | refine Wp ?_ | refine Wq ?_ | refine Wr ?_); (try simp only [go_sem, fN, seval, eT, iR, dT, dF, nL]); (repeat with_reducible refine Ai ?_); (try (refine hK _ ?_; clear hK K)); (try with_reducible refine iC ?_)))
  refine IWP.loopD [10] (fun n s => ∃ (k : Nat) (t' : Lm), k ≤ m ∧ n = m - k ∧ Lm.run (m - k) k t' = Lm.run m 0 t ∧ t'.wf ∧ t'.size ≤ 2000 ∧ t'.good (1000000 + 2000 * k) ∧ s.env 1 = aInt m ∧ s.env 2 = .one (.fn 33 []) ∧ s.env 3 = .one (.ptr 3 1 0 0) ∧ s.env 6 = .one (.ptr 6 1 0 0) ∧ s.S 3 = some (.box 25 [.st (.int .i64 t'.kind), .st (.int .i64 t'.idx), .st (.list (t'.subs.map encL))]) ∧ s.S 6 = some (.box 25 [.st (.int .i64 0), .st (.int .i64 0), .full []]) ∧ s.env 9 = aInt k ∧ s.S 10 = none) m
    ⟨0, t, Nat.zero_le _, rfl, rfl, hw, hz, by simpa using hg, rfl, rfl, rfl, rfl, rfl, rfl, rfl, rfl⟩ ?_
  rintro n ⟨env, S⟩ ⟨k, t', hk, rfl, hR, hw', hz', hg', e1, e2, e3, e6, s3, s6, e9, s10⟩
  simp only at e1 e2 e3 e6 s3 s6 e9 s10
  have hg9 := Lm.good_mono (c := 1000000000) (by omega) t' hg'
  have hO := lOuter_a t' hw' hg9 (by omega)
  unfold Lm.stepR at hO
  rw [← hR]
  cases ho : t'.outer with
  | none =>
    rw [ho] at hO
    rw [Lm.run_none ho]
    repeat' (first | (with_reducible first | refine W ?_ | refine Wz0 ?_) | ((with_reducible first | refine Wo (fun K hK => ?_) | refine Wp ?_ | refine Wq ?_ | refine Wr ?_); (try simp only [go_sem, fN, seval, eT, iR, e1, e2, e3, e6, s3, s6, e9, s10, dT, dF, nL]); (repeat with_reducible refine Ai ?_); (try (refine hK _ ?_; clear hK K)); (try with_reducible refine iC ?_)))
    refine ⟨by kernel_rfl, _, _, hO.toS rfl, ?_⟩
    repeat' (first | (with_reducible first | refine W ?_ | refine Wz0 ?_) | refine Cg _ (lCopy_a t' hg9 (by omega)) ?_ | ((with_reducible first | refine Wo (fun K hK => ?_) | refine Wp ?_ | refine Wq ?_ | refine Wr ?_); (try simp only [go_sem, fN, seval, eT, iR, e1, e2, e3, e6, s3, s6, e9, s10, dT, dF, nL]); (repeat with_reducible refine Ai ?_); (try (refine hK _ ?_; clear hK K)); (try with_reducible refine iC ?_)))
    simp only [go_sem, fN, seval, FinQ, AS.result, resAll, resOne, tupV, e6]
  | some y =>
    rw [ho] at hO
    have hsy := Lm.size_outer ho
    have hsq : t'.size * t'.size ≤ 2000 * 2000 := Nat.mul_le_mul hz' hz'
    rcases Nat.lt_or_ge k m with hkm | hkm
    · have hne : ¬ (k : Int) = m := by omega
      obtain ⟨l, hl⟩ : ∃ l, m - k = l + 1 := ⟨m - k - 1, by omega⟩
      rw [hl, Lm.run_succ ho]
      rw [hl, Lm.run_succ ho] at hR
      by_cases hbig : 2000 < y.size
      · rw [if_pos hbig]
        repeat' (first | (with_reducible first | refine W ?_ | refine Wz0 ?_) | ((with_reducible first | refine Wo (fun K hK => ?_) | refine Wp ?_ | refine Wq ?_ | refine Wr ?_); (try simp only [go_sem, fN, seval, eT, iR, e1, e2, e3, e6, s3, s6, e9, s10, dT, dF, nL]); (repeat with_reducible refine Ai ?_); (try (refine hK _ ?_; clear hK K)); (try with_reducible refine iC ?_)))
        refine ⟨by kernel_rfl, _, _, hO.toS rfl, ?_⟩
        repeat' (first | (with_reducible first | refine W ?_ | refine Wz0 ?_) | ((with_reducible first | refine Wo (fun K hK => ?_) | refine Wp ?_ | refine Wq ?_ | refine Wr ?_); (try simp only [go_sem, fN, seval, eT, iR, e1, e2, e3, e6, s3, s6, e9, s10, hne, dT, dF, nL]); (repeat with_reducible refine Ai ?_); (try (refine hK _ ?_; clear hK K)); (try with_reducible refine iC ?_)))
        refine ⟨_, lsize_a y (by omega), ?_⟩
        have hbig' : (2000 : Int) < y.size := by omega
        repeat' (first | (with_reducible first | refine W ?_ | refine Wz0 ?_) | ((with_reducible first | refine Wo (fun K hK => ?_) | refine Wp ?_ | refine Wq ?_ | refine Wr ?_); (try simp only [go_sem, fN, seval, eT, iR, e1, e2, e3, e6, s3, s6, e9, s10, hbig', dT, dF, nL]); (repeat with_reducible refine Ai ?_); (try (refine hK _ ?_; clear hK K)); (try with_reducible refine iC ?_)))
        simp only [go_sem, fN, seval, FinQ, AS.result, resAll, resOne, tupV, e6, Lm.nil]
        rfl
      · rw [if_neg hbig] at hR ⊢
        repeat' (first | (with_reducible first | refine W ?_ | refine Wz0 ?_) | ((with_reducible first | refine Wo (fun K hK => ?_) | refine Wp ?_ | refine Wq ?_ | refine Wr ?_); (try simp only [go_sem, fN, seval, eT, iR, e1, e2, e3, e6, s3, s6, e9, s10, dT, dF, nL]); (repeat with_reducible refine Ai ?_); (try (refine hK _ ?_; clear hK K)); (try with_reducible refine iC ?_)))
        refine ⟨by kernel_rfl, _, _, hO.toS rfl, ?_⟩
        repeat' (first | (with_reducible first | refine W ?_ | refine Wz0 ?_) | ((with_reducible first | refine Wo (fun K hK => ?_) | refine Wp ?_ | refine Wq ?_ | refine Wr ?_); (try simp only [go_sem, fN, seval, eT, iR, e1, e2, e3, e6, s3, s6, e9, s10, hne, dT, dF, nL]); (repeat with_reducible refine Ai ?_); (try (refine hK _ ?_; clear hK K)); (try with_reducible refine iC ?_)))
        refine ⟨_, lsize_a y (by omega), ?_⟩
        have hbig' : ¬ (2000 : Int) < y.size := by omega
        repeat' (first | (with_reducible first | refine W ?_ | refine Wz0 ?_) | ((with_reducible first | refine Wo (fun K hK => ?_) | refine Wp ?_ | refine Wq ?_ | refine Wr ?_); (try simp only [go_sem, fN, seval, eT, iR, e1, e2, e3, e6, s3, s6, e9, s10, hbig', dT, dF, nL]); (repeat with_reducible refine Ai ?_); (try (refine hK _ ?_; clear hK K)); (try with_reducible refine iC ?_)))
        refine then_normal ⟨m - (k + 1), by omega, k + 1, y, by omega, rfl, ?_, Lm.wf_outer hw' ho, by omega, Lm.good_mono (by omega) y (Lm.good_outer (D := 2000) (by decide) (by omega) hg' ho), ?_⟩
        · rw [show m - (k + 1) = l by omega]
          congr 1
        · simp only [go_sem, fN, seval, AS.drop, dropS, AC.clears, AC.clear, AC.highs, AC.high, Bool.not_false, Bool.true_and, Bool.and_self, AV.purge, AV.purges, AC.purge, ABlk.purge, List.contains_cons, List.contains_nil, Nat.reduceBEq, Bool.or_self, Bool.or_false, Bool.false_or, Bool.or_true, eT, iR, e1, e2, e3, e6, s3, s6, e9, s10]
          congr 3
    · have hkm' : k = m := by omega
      subst hkm'
      rw [Nat.sub_self, Lm.run_zero ho]
      repeat' (first | (with_reducible first | refine W ?_ | refine Wz0 ?_) | ((with_reducible first | refine Wo (fun K hK => ?_) | refine Wp ?_ | refine Wq ?_ | refine Wr ?_); (try simp only [go_sem, fN, seval, eT, iR, e1, e2, e3, e6, s3, s6, e9, s10, dT, dF, nL]); (repeat with_reducible refine Ai ?_); (try (refine hK _ ?_; clear hK K)); (try with_reducible refine iC ?_)))
      refine ⟨by kernel_rfl, _, _, hO.toS rfl, ?_⟩
      repeat' (first | (with_reducible first | refine W ?_ | refine Wz0 ?_) | ((with_reducible first | refine Wo (fun K hK => ?_) | refine Wp ?_ | refine Wq ?_ | refine Wr ?_); (try simp only [go_sem, fN, seval, eT, iR, e1, e2, e3, e6, s3, s6, e9, s10, dT, dF, nL]); (repeat with_reducible refine Ai ?_); (try (refine hK _ ?_; clear hK K)); (try with_reducible refine iC ?_)))
      simp only [go_sem, fN, seval, FinQ, AS.result, resAll, resOne, tupV, e6, Lm.nil]
      rfl
def argsErr (t : Lm) (u most : Int) : Int := if t.may 0 u = 0 then (if most < 0 ∨ 400 < most then 3 else 0) else t.may 0 u
theorem lArgs_a (t : Lm) (u most : Int) : ACalls Tryd.prog 31 [aLm t, aInt u, aInt most] (aInt (argsErr t u most)) := by
  refine ok_reduce_args.ac fun C hC => ?_
  unfold ir_reduce_args
  unfold argsErr
  by_cases h1 : t.may 0 u = 0
  · rw [if_pos h1]
    by_cases h2 : most < 0
    · rw [if_pos (Or.inl h2)]
      repeat' (first | (with_reducible first | refine W ?_ | refine Wz0 ?_) | refine Cg _ (lCheck_a t u) ?_ | ((with_reducible first | refine Wo (fun K hK => ?_) | refine Wp ?_ | refine Wq ?_ | refine Wr ?_); (try simp only [go_sem, fN, seval, eT, iR, h1, h2, dT, dF, nL]); (repeat with_reducible refine Ai ?_); (try (refine hK _ ?_; clear hK K)); (try with_reducible refine iC ?_)))
      simp only [go_sem, fN, seval, FinQ, AS.result, resAll, resOne, tupV]
    · by_cases h3 : 400 < most
      · rw [if_pos (Or.inr h3)]
        repeat' (first | (with_reducible first | refine W ?_ | refine Wz0 ?_) | refine Cg _ (lCheck_a t u) ?_ | ((with_reducible first | refine Wo (fun K hK => ?_) | refine Wp ?_ | refine Wq ?_ | refine Wr ?_); (try simp only [go_sem, fN, seval, eT, iR, h1, h2, h3, dT, dF, nL]); (repeat with_reducible refine Ai ?_); (try (refine hK _ ?_; clear hK K)); (try with_reducible refine iC ?_)))
        simp only [go_sem, fN, seval, FinQ, AS.result, resAll, resOne, tupV]
      · rw [if_neg (by omega)]
        repeat' (first | (with_reducible first | refine W ?_ | refine Wz0 ?_) | refine Cg _ (lCheck_a t u) ?_ | ((with_reducible first | refine Wo (fun K hK => ?_) | refine Wp ?_ | refine Wq ?_ | refine Wr ?_); (try simp only [go_sem, fN, seval, eT, iR, h1, h2, h3, dT, dF, nL]); (repeat with_reducible refine Ai ?_); (try (refine hK _ ?_; clear hK K)); (try with_reducible refine iC ?_)))
        simp only [go_sem, fN, seval, FinQ, AS.result, resAll, resOne, tupV]
  · rw [if_neg h1]
    repeat' (first | (with_reducible first | refine W ?_ | refine Wz0 ?_) | refine Cg _ (lCheck_a t u) ?_ | ((with_reducible first | refine Wo (fun K hK => ?_) | refine Wp ?_ | refine Wq ?_ | refine Wr ?_); (try simp only [go_sem, fN, seval, eT, iR, h1, dT, dF, nL]); (repeat with_reducible refine Ai ?_); (try (refine hK _ ?_; clear hK K)); (try with_reducible refine iC ?_)))
    simp only [go_sem, fN, seval, FinQ, AS.result, resAll, resOne, tupV]
theorem argsErr_ok {t : Lm} {u most : Int} (h : argsErr t u most = 0) : 0 ≤ u ∧ u ≤ 40 ∧ t.size ≤ 200 ∧ t.chk 0 u = 0 ∧ 0 ≤ most ∧ most ≤ 400 := by
  unfold argsErr at h
  split at h
  · rename_i h1
    obtain ⟨a, b, c, d⟩ := Lm.may_ok h1
    split at h
    · omega
    · exact ⟨a, b, c, d, by omega, by omega⟩
  · rename_i h1
    exact absurd h h1
def normalR (t : Lm) (u most : Int) : Lm × Int × Int := if argsErr t u most = 0 then Lm.run most.toNat 0 t else (Lm.nil, 0, argsErr t u most)
theorem lNormal_a (t : Lm) (u most : Int) : ACalls Tryd.prog 19 [aLm t, aInt u, aInt most] (aRun (normalR t u most)) := by
  refine ok_reduce_Normal.ac fun C hC => ?_
  unfold ir_reduce_Normal
  unfold normalR
  by_cases h1 : argsErr t u most = 0
  · rw [if_pos h1]
    obtain ⟨a1, a2, a3, a4, a5, a6⟩ := argsErr_ok h1
    obtain ⟨m, rfl⟩ : ∃ m : Nat, most = m := ⟨most.toNat, by omega⟩
    rw [Int.toNat_natCast]
    repeat' (first | (with_reducible first | refine W ?_ | refine Wz0 ?_) | refine Cg _ (lArgs_a t u m) ?_ | refine Cg _ (lLast_a t m (by omega) (Lm.wf_chk t u a4) (by omega) (Lm.good_chk (by decide) t u 1000000 a1 (by omega) (by decide) a4)) ?_ | ((with_reducible first | refine Wo (fun K hK => ?_) | refine Wp ?_ | refine Wq ?_ | refine Wr ?_); (try simp only [go_sem, fN, seval, eT, iR, h1, dT, dF, nL]); (repeat with_reducible refine Ai ?_); (try (refine hK _ ?_; clear hK K)); (try with_reducible refine iC ?_)))
    simp only [go_sem, fN, seval, FinQ, AS.result, resAll, resOne, tupV]
  · rw [if_neg h1]
    repeat' (first | (with_reducible first | refine W ?_ | refine Wz0 ?_) | refine Cg _ (lArgs_a t u most) ?_ | ((with_reducible first | refine Wo (fun K hK => ?_) | refine Wp ?_ | refine Wq ?_ | refine Wr ?_); (try simp only [go_sem, fN, seval, eT, iR, h1, dT, dF, nL]); (repeat with_reducible refine Ai ?_); (try (refine hK _ ?_; clear hK K)); (try with_reducible refine iC ?_)))
    simp only [go_sem, fN, seval, FinQ, AS.result, resAll, resOne, tupV, Lm.nil]
    rfl

mutual
def Lm.in2 : Int → Lm → Lm
  | d, .mk k i xs => if k = 1 then (if i < d then .mk 1 i [] else if i = d then .v (1 + d) else if i = d + 1 then .v (0 + d) else .v (i - 2)) else .mk k i (Lm.in2s (under k d) xs)
def Lm.in2s : Int → List Lm → List Lm
  | _, [] => []
  | d, t :: ts => Lm.in2 d t :: Lm.in2s d ts
end
theorem Lm.in2s_eq (d : Int) : ∀ xs : List Lm, Lm.in2s d xs = xs.map (Lm.in2 d)
  | [] => rfl
  | t :: ts => by rw [Lm.in2s, Lm.in2s_eq d ts]; rfl
theorem Lm.in2_eq (d : Int) (t : Lm) : Lm.in2 d t = if t.kind = 1 then (if t.idx < d then .mk 1 t.idx [] else if t.idx = d then .v (1 + d) else if t.idx = d + 1 then .v (0 + d) else .v (t.idx - 2)) else .mk t.kind t.idx (t.subs.map (Lm.in2 (under t.kind d))) := by
  cases t
  rw [Lm.in2, Lm.in2s_eq]
  rfl
theorem in2_mv {t : Lm} (h : LW t) : ∀ {d : Int}, 0 ≤ d → Lm.in2 d (Lm.mv 2 (d + 2) t) = Lm.sw d t := by
  induction h with
  | v i =>
    intro d hd
    rw [mv_v, sw_v]
    by_cases h1 : d + 2 ≤ (i : Int)
    · rw [if_pos h1, if_neg (by omega), if_neg (by omega)]
      simp only [Lm.v, Lm.in2, if_true]
      rw [if_neg (by omega), if_neg (by omega), if_neg (by omega)]
      congr 1
      omega
    · rw [if_neg h1]
      simp only [Lm.v, Lm.in2, if_true]
      by_cases h2 : (i : Int) = d
      · rw [if_neg (by omega), if_pos h2, if_pos h2]
        congr 1
        omega
      · rw [if_neg h2, if_neg h2]
        by_cases h3 : (i : Int) = d + 1
        · rw [if_neg (by omega), if_pos h3, if_pos h3]
          congr 1
          omega
        · rw [if_pos (by omega), if_neg h3]
  | c h => intro d hd; rw [mv_c, sw_c]; simp [Lm.in2, Lm.in2s]
  | l h ih =>
    intro d hd
    rw [mv_l, sw_l, show d + 2 + 1 = (d + 1) + 2 by omega, ← ih (by omega)]
    simp [Lm.l, Lm.in2, Lm.in2s, under]
  | a hf hx i1 i2 =>
    intro d hd
    rw [mv_a, sw_a, ← i1 hd, ← i2 hd]
    simp [Lm.a, Lm.in2, Lm.in2s, under]
abbrev aLm2 : AV := .one (.st (.list [[.int .i64 1, .int .i64 1, .list []], [.int .i64 1, .int .i64 0, .list []]]))
theorem linst2_a (t : Lm) (d : Int) (hg : t.good 1000000000) (hd : 0 ≤ d) (hz : d + t.size ≤ 1000000000) : ACalls Tryd.prog 16 [aLm t, aLm2, aInt d] (aLm (Lm.in2 d t)) := by
  induction h : SizeOf.sizeOf t using Nat.strongRecOn generalizing t d with
  | _ N ih =>
  subst h
  have hs := Lm.size_eq t
  have hlen := Lm.length_le t.subs
  obtain ⟨g1, g2, g3, g4⟩ := (Lm.good_eq _ _).1 hg
  have hu2 : under t.kind d ≤ d + 1 ∧ 0 ≤ under t.kind d := by unfold under; split <;> omega
  have hv1 : (Lm.v 1).good 1000000000 := ⟨fun _ => rfl, by decide, by decide, trivial⟩
  have hv0 : (Lm.v 0).good 1000000000 := ⟨fun _ => rfl, by decide, by decide, trivial⟩
  have m1 := lhigher_a (.v 1) d 0 hv1 (by omega) (by omega) (by show 0 + 1 ≤ _; omega)
  have m0 := lhigher_a (.v 0) d 0 hv0 (by omega) (by omega) (by show 0 + 1 ≤ _; omega)
  rw [mv_v, if_pos (by decide)] at m1 m0
  rw [Lm.in2_eq]
  by_cases k1 : t.kind = 1
  · have g1 := g1 k1
    rw [if_pos k1]
    by_cases k2 : t.idx < d
    · rw [if_pos k2]
      refine ok_R_Instead.ac fun C hC => ?_
      unfold ir_R_Instead
      repeat' (first | (with_reducible first | refine W ?_ | refine Wz0 ?_) | ((with_reducible first | refine Wo (fun K hK => ?_) | refine Wp ?_ | refine Wq ?_ | refine Wr ?_); (try simp only [go_sem, fN, seval, eT, iR, k1, k2, dT, dF, nL]); (repeat with_reducible refine Ai ?_); (try (refine hK _ ?_; clear hK K)); (try with_reducible refine iC ?_)))
      simp only [go_sem, fN, seval, FinQ, AS.result, resAll, resOne, tupV]
      simp [k1, g1, Lm.kind_mk, Lm.idx_mk, Lm.subs_mk]
    rw [if_neg k2]
    by_cases k3 : t.idx = d
    · have k4 : t.idx - d = 0 := by omega
      rw [if_pos k3]
      refine ok_R_Instead.ac fun C hC => ?_
      unfold ir_R_Instead
      repeat' (first | (with_reducible first | refine W ?_ | refine Wz0 ?_) | refine Cg _ (m1) ?_ | ((with_reducible first | refine Wo (fun K hK => ?_) | refine Wp ?_ | refine Wq ?_ | refine Wr ?_); (try simp only [go_sem, fN, seval, eT, iR, k1, k2, k4, Int.cast_ofNat_Int, dT, dF, nL]); (repeat with_reducible refine Ai ?_); (try (refine hK _ ?_; clear hK K)); (try with_reducible refine iC ?_)))
      simp only [go_sem, fN, seval, FinQ, AS.result, resAll, resOne, tupV]
    rw [if_neg k3]
    by_cases k5 : t.idx = d + 1
    · have k4 : t.idx - d = 1 := by omega
      rw [if_pos k5]
      refine ok_R_Instead.ac fun C hC => ?_
      unfold ir_R_Instead
      repeat' (first | (with_reducible first | refine W ?_ | refine Wz0 ?_) | refine Cg _ (m0) ?_ | ((with_reducible first | refine Wo (fun K hK => ?_) | refine Wp ?_ | refine Wq ?_ | refine Wr ?_); (try simp only [go_sem, fN, seval, eT, iR, k1, k2, k4, Int.cast_ofNat_Int, dT, dF, nL]); (repeat with_reducible refine Ai ?_); (try (refine hK _ ?_; clear hK K)); (try with_reducible refine iC ?_)))
      simp only [go_sem, fN, seval, FinQ, AS.result, resAll, resOne, tupV]
    rw [if_neg k5]
    have k6 : ¬ t.idx - d < 2 := by omega
    refine ok_R_Instead.ac fun C hC => ?_
    unfold ir_R_Instead
    repeat' (first | (with_reducible first | refine W ?_ | refine Wz0 ?_) | refine Cg _ (lVar_a (t.idx - 2)) ?_ | ((with_reducible first | refine Wo (fun K hK => ?_) | refine Wp ?_ | refine Wq ?_ | refine Wr ?_); (try simp only [go_sem, fN, seval, eT, iR, k1, k2, k6, Int.cast_ofNat_Int, dT, dF, nL]); (repeat with_reducible refine Ai ?_); (try (refine hK _ ?_; clear hK K)); (try with_reducible refine iC ?_)))
    simp only [go_sem, fN, seval, FinQ, AS.result, resAll, resOne, tupV]
    rfl
  rw [if_neg k1]
  have hcase : t.kind = 2 ∨ ¬ t.kind = 2 := by omega
  rcases hcase with k2 | k2
  all_goals
    refine ok_R_Instead.ac fun C hC => ?_
    unfold ir_R_Instead
    repeat' (first | (with_reducible first | refine W ?_ | refine Wz0 ?_) | ((with_reducible first | refine Wo (fun K hK => ?_) | refine Wp ?_ | refine Wq ?_ | refine Wr ?_); (try simp only [go_sem, fN, seval, eT, iR, k1, k2, dT, dF, nL]); (repeat with_reducible refine Ai ?_); (try (refine hK _ ?_; clear hK K)); (try with_reducible refine iC ?_)))
    refine IWP.ghost (Ghost.ownC 8 2 21 25 3 (xs := ([] : List Lm).map encL) rfl rfl rfl lens_encL) ?_
    refine IWP.loop (fun n s => ∃ k, k ≤ t.subs.length ∧ n = t.subs.length - k ∧ s.env 1 = aLm2 ∧ s.env 2 = aInt (under t.kind d) ∧ s.env 3 = .one (.ptr 3 1 0 0) ∧ s.env 6 = .one (.ptr 6 1 0 0) ∧ s.env 8 = .one (.ptr 8 1 0 0) ∧ s.S 3 = some (.box 25 [.st (.int .i64 t.kind), .st (.int .i64 t.idx), .st (.list (t.subs.map encL))]) ∧ s.S 6 = some (.box 25 [.st (.int .i64 0), .st (.int .i64 0), .full []])
      ∧ s.S 8 = some (.box 25 [.st (.int .i64 t.kind), .st (.int .i64 t.idx), .row 21 k]) ∧ s.S 21 = some (.arow 25 3 (((t.subs.take k).map (Lm.in2 (under t.kind d))).map encL)) ∧ s.env 9 = aInt k) t.subs.length
      ⟨0, Nat.zero_le _, rfl, rfl, by simp only [k1, k2, under, Int.reduceEq, ↓reduceIte]; rfl, rfl, rfl, rfl, by first | rfl | (simp only [k1, k2]; rfl), rfl, by first | rfl | (simp only [k1, k2]; rfl), rfl, rfl⟩ ?_
    rintro n ⟨env, S⟩ ⟨k, hk', rfl, e1, e2, e3, e6, e8, s3, s6, s8, s21, e9⟩
    simp only at e1 e2 e3 e6 e8 s3 s6 s8 s21 e9
    have hlk : (t.subs.take k).length = k := by rw [List.length_take]; omega
    by_cases hlt : (k : Int) < t.subs.length
    · obtain ⟨a, ha⟩ := get_lt (show k < t.subs.length by omega)
      have z3 := Lm.size_mem (mem_of_get ha)
      repeat' (first | (with_reducible first | refine W ?_ | refine Wz0 ?_) | refine Cg _ (ih _ (Lm.lt_of_sub (mem_of_get ha)) a (under t.kind d) (Lm.good_sub hg (mem_of_get ha)) hu2.2 (by omega) rfl) ?_ | ((with_reducible first | refine Wo (fun K hK => ?_) | refine Wp ?_ | refine Wq ?_ | refine Wr ?_); (try simp only [go_sem, fN, seval, eT, iR, e1, e2, e3, e6, e8, s3, s6, s8, s21, e9, ha, hlt, hlk, dT, dF, nL]); (repeat with_reducible refine Ai ?_); (try (refine hK _ ?_; clear hK K)); (try with_reducible refine iC ?_)))
      refine then_normal ⟨t.subs.length - (k + 1), by omega, k + 1, by omega, rfl, ?_⟩
      simp only [go_sem, fN, seval, eT, iR, e1, e2, e3, e6, e8, s3, s6, s8, s21, e9]
      exact ⟨by rw [take_snoc ha]; simp [encL_eq], by congr 3⟩
    · repeat' (first | (with_reducible first | refine W ?_ | refine Wz0 ?_) | ((with_reducible first | refine Wo (fun K hK => ?_) | refine Wp ?_ | refine Wq ?_ | refine Wr ?_); (try simp only [go_sem, fN, seval, eT, iR, e1, e2, e3, e6, e8, s3, s6, s8, s21, e9, hlt, dT, dF, nL]); (repeat with_reducible refine Ai ?_); (try (refine hK _ ?_; clear hK K)); (try with_reducible refine iC ?_)))
      have hall : t.subs.take k = t.subs := List.take_of_length_le (by omega)
      rw [hall] at s21
      have hkl : k = t.subs.length := by omega
      simp only [go_sem, fN, seval, FinQ, AS.result, resAll, resOne, tupV, e6, s6, s8, s21, hkl]
      simp [k1, k2, Lm.kind_mk, Lm.idx_mk, Lm.subs_mk]
theorem swapped_a (t : Lm) (hw : LW t) (hg : t.good 1000) (hz : t.size ≤ 1000) : ACalls Tryd.prog 7 [aLm t] (aLm (Lm.sw 0 t)) := by
  have hH := lhigher_a t 2 2 (Lm.good_mono (by decide) t hg) (by decide) (by decide) (by omega)
  have hI := linst2_a (Lm.mv 2 2 t) 0 (Lm.good_mono (by decide) _ (Lm.good_mv (b := 2) (by decide) 2 t hg)) (Int.le_refl _) (by rw [Lm.size_mv]; omega)
  have he := in2_mv hw (d := 0) (Int.le_refl _)
  rw [show (0 : Int) + 2 = 2 from rfl] at he
  rw [he] at hI
  refine ok_metaprunetop_swapped.ac fun C hC => ?_
  unfold ir_metaprunetop_swapped
  repeat' (first | (with_reducible first | refine W ?_ | refine Wz0 ?_) | refine Cg _ (hH) ?_ | refine Cg _ (lVar_a 1) ?_ | refine Cg _ (lVar_a 0) ?_ | refine Cg _ (hI) ?_ | ((with_reducible first | refine Wo (fun K hK => ?_) | refine Wp ?_ | refine Wq ?_ | refine Wr ?_); (try simp only [go_sem, fN, seval, eT, iR, dT, dF, nL]); (repeat with_reducible refine Ai ?_); (try (refine hK _ ?_; clear hK K)); (try with_reducible refine iC ?_)))
  simp only [go_sem, fN, seval, FinQ, AS.result, resAll, resOne, tupV]

def selfT : ByteArray := ⟨#[40, 92, 121, 46, 121, 32, 121, 41, 32, 99, 49]⟩
def selfS : ByteArray := ⟨#[99, 49, 32, 99, 49]⟩
def selfL : Lm := .a (.l (.a (.v 0) (.v 0))) (.mk 4 1 [])
def selfR : Lm := .a (.mk 4 1 []) (.mk 4 1 [])
theorem self_read : lparse selfT [] = (selfL, 0) := by kernel_rfl
theorem self_run : normalR selfL 0 5 = (selfR, 1, 0) := by kernel_rfl
theorem self_text : LTx 120 ([] : List ByteArray).length [] selfR selfS := by
  have h : LTx 120 0 [] selfR (brk (decide ((Lm.mk 4 1 []).kind = 2)) (⟨#[99]⟩ ++ decS 1) ++ ⟨#[32]⟩ ++ brk (decide ((Lm.mk 4 1 []).kind = 2 ∨ (Lm.mk 4 1 []).kind = 3)) (⟨#[99]⟩ ++ decS 1)) := .a (.c (i := 1) (by decide)) (.c (i := 1) (by decide))
  have e : brk (decide ((Lm.mk 4 1 []).kind = 2)) (⟨#[99]⟩ ++ decS 1) ++ ⟨#[32]⟩ ++ brk (decide ((Lm.mk 4 1 []).kind = 2 ∨ (Lm.mk 4 1 []).kind = 3)) (⟨#[99]⟩ ++ decS 1) = selfS := by decide +kernel
  rw [e] at h
  exact h
theorem applies_a : ACalls Tryd.prog 11 [] (aBool true) := by
  have hP := lparse_a selfT [] (by decide)
  rw [self_read] at hP
  unfold lreadV at hP
  have hN := lNormal_a selfL 0 5
  rw [self_run] at hN
  have hT := ltext_ok (t := selfR) (free := []) (by decide +kernel) (by decide +kernel) self_text (by decide) (by decide)
  refine ok_metaprunetop_applies.ac fun C hC => ?_
  unfold ir_metaprunetop_applies
  repeat' (first | (with_reducible first | refine W ?_ | refine Wz0 ?_) | refine Cg _ (hP) ?_ | refine Cg _ (hN) ?_ | refine Cg _ (hT) ?_ | ((with_reducible first | refine Wo (fun K hK => ?_) | refine Wp ?_ | refine Wq ?_ | refine Wr ?_); (try simp only [go_sem, fN, seval, eT, iR, dT, dF, nL]); (repeat with_reducible refine Ai ?_); (try (refine hK _ ?_; clear hK K)); (try with_reducible refine iC ?_)))
  simp only [go_sem, fN, seval, FinQ, AS.result, resAll, resOne, tupV]
  rfl
theorem may_of {t : Lm} {u : Int} (h0 : 0 ≤ u) (h40 : u ≤ 40) (hz : t.size ≤ 200) (hc : t.chk 0 u = 0) : t.may 0 u = 0 := by
  unfold Lm.may
  rw [if_neg (by omega), if_neg (by omega)]
  exact hc
theorem putErr_no {b x : Lm} {u : Int} (h0 : 0 ≤ u) (h40 : u < 40) (hb : b.may 0 (u + 1) = 0) (hx : x.may 0 u = 0) (hz : (Lm.put x 0 b).size ≤ 2000) : putErr b x u = 0 := by
  unfold putErr
  rw [if_neg (by omega), if_neg (by simpa using hb), if_neg (by simpa using hx), if_neg (by omega)]
theorem topSubst_a (l : List Int) (m1 : Int) (hm : l.length ≤ maxLen) (hl : ∀ n ∈ l, inR .i64 n) (h1 : inR .i64 m1) : ACalls Tryd.prog 3 [aInts l, aInt m1] (aBool true) := by
  have p1 := pick_a m1 16 h1 (by decide)
  obtain ⟨b1, b2⟩ := pickI_range m1 16 (by decide)
  generalize pickI m1 16 = x1 at *
  obtain ⟨x1, rfl⟩ : ∃ k : Nat, x1 = k := ⟨x1.toNat, by omega⟩
  obtain ⟨m, hm0, cm, zm, vm⟩ := lamOfRawZ_a l hl hm 1 (by decide) (by decide) 0 x1 3 (by omega) (by omega) (by omega)
  obtain ⟨x, hx0, cx, zx, vx⟩ := lamOfRawZ_a l hl hm 1 (by decide) (by decide) 60 5 2 (by omega) (by omega) (by omega)
  obtain ⟨y, hy0, cy, zy, vy⟩ := lamOfRawZ_a l hl hm 1 (by decide) (by decide) 90 5 1 (by omega) (by omega) (by omega)
  have zm : m.size ≤ 18 := by unfold tzM at zm; (repeat' split at zm) <;> omega
  have vm : m.lvs ≤ 8 := by unfold lvM at vm; (repeat' split at vm) <;> omega
  have zx : x.size ≤ 5 := zx
  have vx : x.lvs ≤ 2 := vx
  have zy : y.size ≤ 5 := zy
  have vy : y.lvs ≤ 2 := vy
  rw [show ((0 : Nat) : Int) = 0 from rfl, show ((3 : Nat) : Int) = 3 from rfl] at hm0
  rw [show ((60 : Nat) : Int) = 60 from rfl, show ((5 : Nat) : Int) = 5 from rfl, show ((2 : Nat) : Int) = 2 from rfl] at hx0
  rw [show ((90 : Nat) : Int) = 90 from rfl, show ((5 : Nat) : Int) = 5 from rfl, show ((1 : Nat) : Int) = 1 from rfl] at hy0
  have cm : m.chk 0 3 = 0 := cm
  have cx : x.chk 0 2 = 0 := cx
  have cy : y.chk 0 1 = 0 := cy
  have wm := lw_of _ m _ (Nat.le_refl _) cm
  have wx := lw_of _ x _ (Nat.le_refl _) cx
  have wy := lw_of _ y _ (Nat.le_refl _) cy
  have gm := Lm.good_chk (by decide) m 3 1000 (by decide) (by omega) (by decide) cm
  have gy := Lm.good_chk (by decide) y 1 1000 (by decide) (by omega) (by decide) cy
  obtain ⟨za, va⟩ := put_lvs wm wx 4 (by omega) 2 vx (by decide) 0
  have ca : (Lm.put x 0 m).chk 0 2 = 0 := chk_put wm wx (Int.le_refl _) (by decide) cm cx
  have wa := lw_of _ _ _ (Nat.le_refl _) ca
  obtain ⟨zb, _⟩ := put_lvs wa wy 4 (by omega) 2 vy (by decide) 0
  have ea := putErr_no (b := m) (x := x) (u := 2) (by decide) (by decide) (may_of (by decide) (by decide) (by omega) cm) (may_of (by decide) (by decide) (by omega) cx) (by omega)
  have eb := putErr_no (b := Lm.put x 0 m) (x := y) (u := 1) (by decide) (by decide) (may_of (by decide) (by decide) (by omega) ca) (may_of (by decide) (by decide) (by omega) cy) (by omega)
  obtain ⟨zs, vs⟩ := sw_size wm 0
  have cs : (Lm.sw 0 m).chk 0 3 = 0 := chk_sw wm (Int.le_refl _) (by decide) cm
  have ws := lw_of _ _ _ (Nat.le_refl _) cs
  have ch : (Lm.mv 1 0 y).chk 0 2 = 0 := chk_mv wy (by decide) cy
  have wh := lw_of _ _ _ (Nat.le_refl _) ch
  have zh : (Lm.mv 1 0 y).size = y.size := Lm.size_mv _ _ _
  have vh := mv_lvs wy 1 0
  obtain ⟨zc, vc⟩ := put_lvs ws wh 4 (by omega) 2 (by omega) (by decide) 0
  have cc : (Lm.put (Lm.mv 1 0 y) 0 (Lm.sw 0 m)).chk 0 2 = 0 := chk_put ws wh (Int.le_refl _) (by decide) cs ch
  have wc := lw_of _ _ _ (Nat.le_refl _) cc
  have ec := putErr_no (b := Lm.sw 0 m) (x := Lm.mv 1 0 y) (u := 2) (by decide) (by decide) (may_of (by decide) (by decide) (by omega) cs) (may_of (by decide) (by decide) (by omega) ch) (by omega)
  obtain ⟨zz, vz⟩ := put_lvs wx wy 4 (by omega) 2 vy (by decide) 0
  have cz : (Lm.put y 0 x).chk 0 1 = 0 := chk_put wx wy (Int.le_refl _) (by decide) cx cy
  have wz := lw_of _ _ _ (Nat.le_refl _) cz
  have ez := putErr_no (b := x) (x := y) (u := 1) (by decide) (by decide) (may_of (by decide) (by decide) (by omega) cx) (may_of (by decide) (by decide) (by omega) cy) (by omega)
  obtain ⟨zd, _⟩ := put_lvs wc wz 12 (by omega) 4 (by omega) (by decide) 0
  have ed := putErr_no (b := Lm.put (Lm.mv 1 0 y) 0 (Lm.sw 0 m)) (x := Lm.put y 0 x) (u := 1) (by decide) (by decide) (may_of (by decide) (by decide) (by omega) cc) (may_of (by decide) (by decide) (by omega) cz) (by omega)
  have hlem := put_put wm wx wy (d := 0) (Int.le_refl _)
  have hA := lPut_a m x 2
  have hB := lPut_a (Lm.put x 0 m) y 1
  have hSw := swapped_a m wm gm (by omega)
  have hHi := lhigher_a y 1 0 (Lm.good_mono (by decide) y gy) (by decide) (by decide) (by omega)
  have hD := lPut_a (Lm.sw 0 m) (Lm.mv 1 0 y) 2
  have hZ := lPut_a x y 1
  have hE := lPut_a (Lm.put (Lm.mv 1 0 y) 0 (Lm.sw 0 m)) (Lm.put y 0 x) 1
  rw [ea, if_pos rfl] at hA
  rw [eb, if_pos rfl, hlem] at hB
  rw [ec, if_pos rfl] at hD
  rw [ez, if_pos rfl] at hZ
  rw [ed, if_pos rfl] at hE
  have hS := sameLam_a (Lm.put (Lm.put y 0 x) 0 (Lm.put (Lm.mv 1 0 y) 0 (Lm.sw 0 m)))
  clear hlem ea eb ec ez ed
  refine ok_metaprunetop_TopSubstitution.ac fun C hC => ?_
  unfold ir_metaprunetop_TopSubstitution
  by_cases hq : (256 : Int) < l.length
  · repeat' (first | (with_reducible first | refine W ?_ | refine Wz0 ?_) | ((with_reducible first | refine Wo (fun K hK => ?_) | refine Wp ?_ | refine Wq ?_ | refine Wr ?_); (try simp only [go_sem, fN, seval, eT, iR, hq, dT, dF, nL]); (repeat with_reducible refine Ai ?_); (try (refine hK _ ?_; clear hK K)); (try with_reducible refine iC ?_)))
    simp only [go_sem, fN, seval, FinQ, AS.result, resAll, resOne, tupV]
  repeat' (first | (with_reducible first | refine W ?_ | refine Wz0 ?_) | refine Cg _ (p1) ?_ | refine Cg _ (hm0) ?_ | refine Cg _ (hx0) ?_ | refine Cg _ (hy0) ?_ | refine Cg _ (hA) ?_ | refine Cg _ (hB) ?_ | refine Cg _ (hSw) ?_ | refine Cg _ (hHi) ?_ | refine Cg _ (hD) ?_ | refine Cg _ (hZ) ?_ | refine Cg _ (hE) ?_ | refine Cg _ (hS) ?_ | refine Cg _ (applies_a) ?_ | ((with_reducible first | refine Wo (fun K hK => ?_) | refine Wp ?_ | refine Wq ?_ | refine Wr ?_); (try simp only [go_sem, fN, seval, eT, iR, hq, dT, dF, nL]); (repeat with_reducible refine Ai ?_); (try (refine hK _ ?_; clear hK K)); (try with_reducible refine iC ?_)))
  simp only [go_sem, fN, seval, FinQ, AS.result, resAll, resOne, tupV]

open Go.ChangeShapes Go.WideShapes Go.ChangeAt
section
variable {H : Type} {enc : TypeId × Value → H} {P : Program}
theorem trodAll_stays (hl : laidOutB P = true) : ∀ {ts : List TypeId} {vs : List Value} {ds : List (DataW H)} {ps : List MemPlace} {W W' : World} {sp : Nat → Bool},
    (∀ t ∈ ts, P.readableRec t = true ∧ t < P.types.size) → DataW.TrodAll enc P W 0 (fun _ => true) true ts vs ds ps → (∀ p ∈ ps, W.sameAt W' p) → (∀ p ∈ ps, sp p.block = true) → DataW.TrodAll enc P W' 0 sp true ts vs ds ps
  | [], [], [], _, _, _, _, _, h, _, _ => h
  | _ :: _, _ :: _, _ :: _, _, _, _, _, hT, ⟨p, q, h1, h2, e⟩, hsame, hs => ⟨p, q, WideElems.Trod_stays hl (hT _ (List.mem_cons.2 (Or.inl rfl))).1 (hT _ (List.mem_cons.2 (Or.inl rfl))).2 h1 (fun x hx => hsame x (by rw [e]; exact List.mem_append_left _ hx)) (fun x hx => hs x (by rw [e]; exact List.mem_append_left _ hx)),
      trodAll_stays hl (fun t ht => hT t (List.mem_cons.2 (Or.inr ht))) h2 (fun x hx => hsame x (by rw [e]; exact List.mem_append_right _ hx)) (fun x hx => hs x (by rw [e]; exact List.mem_append_right _ hx)), e⟩
  | [], _ :: _, _, _, _, _, _, _, h, _, _ => h.elim
  | [], [], _ :: _, _, _, _, _, _, h, _, _ => h.elim
  | _ :: _, [], _, _, _, _, _, _, h, _, _ => h.elim
  | _ :: _, _ :: _, [], _, _, _, _, _, h, _, _ => h.elim
theorem law_post {f : Func} {s : ChangeSpec} {apart fresh handsOn : Bool} {W W' : World} {args : Array Value} {ds : List (DataW H)} {before : List MemPlace} {tb : TypeId}
    (hW : DataW.Whole enc P f.params.toList s.vars apart W args.toList ds [] before) (hv : s.vars = []) (hr : f.resultTypes = #[tb]) (htb : P.underlying tb = some .bool)
    (hres : (s.fn H (ds ++ [])).results = [.lit (.bool true)]) (hargs : (s.fn H (ds ++ [])).args = ds) (hvs : (s.fn H (ds ++ [])).vars = [])
    (hl : laidOutB P = true) (hT : (f.params.toList.all fun t => P.readableRec t && decide (t < P.types.size)) = true) (hb : Below W.heap.size W W') :
    s.post enc P f apart fresh handsOn false W args (.bool true) W' := by
  have hlt : ∀ p ∈ before, p.block < W.heap.size := fun p hp => hW.lt p hp
  have hT' : ∀ t ∈ f.params.toList, P.readableRec t = true ∧ t < P.types.size := fun t ht => by
    have := List.all_eq_true.1 hT t ht
    simpa using this
  obtain ⟨p, q, hA, hV, rfl, hz, hn⟩ := hW
  rw [hv] at hV
  obtain ⟨_, rfl⟩ := trodVars_none hV
  have hargs' : ∀ sp : Nat → Bool, (∀ x ∈ p, sp x.block = true) → DataW.TrodAll enc P W' 0 sp true f.params.toList args.toList ds p := fun sp hsp =>
    trodAll_stays hl hT' hA (fun x hx => hb.same (hlt x (by simpa using hx))) hsp
  have hres' : ∀ (b : Nat) (sp : Nat → Bool) (hd : Bool), DataW.TrodAll enc P W' b sp hd f.resultTypes.toList ((Value.bool true).resultList f.resultTypes.size) (s.fn H (ds ++ [])).results [] := fun b sp hd => by
    rw [hres, hr]
    exact trodAll_cons_mk (shut_bool htb true) trodAll_mk0
  refine ⟨ds, [], p ++ [], [], p, [], ⟨p, [], hA, by rw [hv]; exact rfl, rfl, hz, hn⟩, hres' _ _ _, by rw [hargs]; exact hargs' _ (fun x hx => by simpa using hlt x (by simpa using hx)), by rw [hv, hvs]; exact rfl,
    World.keptBut_mono (fun x hx => ⟨hx, Or.inr (by simpa using hx)⟩) (hb.frame (· ∈ p ++ [])), fun h => by cases h⟩
variable {W : World} {sp : Nat → Bool} {hd : Bool} {base : Nat}
def sto (W : World) : Sto := look W
theorem fit_sto (W : World) : Fit (sto W) W := fun _ _ h => h
theorem spot_none {W : World} {a : Addr} {v : Value} (h : W.cell? a = some v) : a.spot = none := by
  cases hs : a.spot with
  | none => rfl
  | some n =>
    unfold World.cell? at h
    split at h
    · simp [hs] at h
    · cases h
theorem choose_list {α : Type} {p : Nat → α → Prop} {n : Nat} (h : ∀ i, i < n → ∃ b, p i b) : ∃ xs : List α, xs.length = n ∧ ∀ i (h : i < xs.length), p i xs[i] := by
  induction n with
  | zero => exact ⟨[], rfl, fun i h => absurd h (by simp)⟩
  | succ m ih =>
    obtain ⟨xs, h1, h2⟩ := ih (fun i hi => h i (by omega))
    obtain ⟨b, h3⟩ := h m (by omega)
    refine ⟨xs ++ [b], by simp [h1], fun i hi => ?_⟩
    by_cases him : i < xs.length
    · rw [List.getElem_append_left him]
      exact h2 i him
    · have : i = xs.length := by simp at hi; omega
      subst this
      rw [show (xs ++ [b])[xs.length]'hi = b by simp, h1]
      exact h3
theorem list_of_trod {α : Type} {e0 : α → List SV} {t e : TypeId} {k : Nat} {fuel : Nat} {cs : List Value} {x : DataW H × List MemPlace} (ht : P.underlying t = some (.slice e)) (hc : P.cellsOf e = k) (hlen : ∀ a, (e0 a).length = k) (hk : 0 < k)
    (f : ∀ (n : Nat) (cs : List Value) (y : DataW H × List MemPlace), n < fuel → DataW.trod enc P W base sp hd n e cs = some y → ∃ a : α, All2 (SRep (sto W)) cs (e0 a))
    (h : DataW.trod enc P W base sp hd fuel t cs = some x) (hs : hardRows = true → k < 2 := by decide) : ∃ xs : List α, All2 (SRep (sto W)) cs [.list (xs.map e0)] := by
  rcases DataW.trod_slice ht h with ⟨rfl, _⟩ | ⟨a, len, cap, elems, rest, n, hfu, rfl, _, hb, hl, hm, hlen', hel, _, _⟩
  · exact ⟨[], .cons srep_nil .nil⟩
  · have key : ∀ i, i < len → ∃ (b : α), ∃ (cs' : List Value), cs'.length = k ∧ (∀ j u, cs'[j]? = some u → W.cell? ((a.add (i * k)).add j) = some u) ∧ All2 (SRep (sto W)) cs' (e0 b) := fun i hi => by
      have h1 := hel i hi
      rw [List.getElem?_eq_getElem (by omega)] at h1
      obtain ⟨cs', h2, h3⟩ := Option.bind_eq_some_iff.1 h1
      obtain ⟨_, h4, h5⟩ := World.cells?_some h2
      obtain ⟨b, hb⟩ := f n cs' _ (by omega) h3
      rw [hc] at h4 h5
      refine ⟨b, cs', h4, fun j u hj => ?_, hb⟩
      rw [h5 j (by have := (List.getElem?_eq_some_iff.1 hj).1; omega)]
      exact hj
    obtain ⟨xs, hxl, hxs⟩ : ∃ xs : List α, xs.length = len ∧ ∀ i (h : i < xs.length), ∃ cs' : List Value, cs'.length = k ∧ (∀ j u, cs'[j]? = some u → W.cell? ((a.add (i * k)).add j) = some u) ∧ All2 (SRep (sto W)) cs' (e0 xs[i]) := choose_list key
    have cell : ∀ m y j z, (xs.map e0)[m]? = some y → y[j]? = some z → ∃ v, W.cell? ⟨a.block, a.off + m * k + j, none⟩ = some v ∧ SRep (sto W) v z := fun m y j z hy hz => by
      rw [List.getElem?_map, Option.map_eq_some_iff] at hy
      obtain ⟨b, hb', rfl⟩ := hy
      obtain ⟨hm', hbe⟩ := List.getElem?_eq_some_iff.1 hb'
      obtain ⟨cs', c1, c2, c3⟩ := hxs m hm'
      rw [hbe] at c3
      obtain ⟨v, v1, v2⟩ := c3.get hz
      refine ⟨v, ?_, v2⟩
      have := c2 j v v1
      have hsp := spot_none this
      rw [← this]
      congr 1
      have h7 : ((a.add (m * k)).add j).block = a.block ∧ ((a.add (m * k)).add j).off = a.off + m * k + j := by
        unfold Addr.add
        split <;> split <;> simp_all
      generalize (a.add (m * k)).add j = q at *
      cases q
      simp_all
    refine ⟨xs, .cons (.list (b := a.block) (o := a.off) (w := k) (fun m j => (W.cell? ⟨a.block, a.off + m * k + j, none⟩).getD undef) (by simp [hxl]) hl hm (by simp) (fun h0 => ?_) (fun y hy => ?_) (fun q1 q2 _ => absurd (hs q1) (by omega)) (fun m y j z hy hz => ?_) (fun m y j z hy hz => ?_)) .nil⟩
    · obtain ⟨cs', h1, h2, h3⟩ := hxs 0 (by omega)
      have h4 : W.cell? a = some (cs'[0]'(by omega)) := by
        have := h2 0 _ (List.getElem?_eq_getElem (by omega))
        simpa [Addr.add] using this
      have := spot_none h4
      cases a
      simp_all
    · obtain ⟨b, _, rfl⟩ := List.mem_map.1 hy
      exact hlen b
    · obtain ⟨v, v1, v2⟩ := cell m y j z hy hz
      show W.cell? _ = _
      rw [v1]; rfl
    · obtain ⟨v, v1, v2⟩ := cell m y j z hy hz
      rw [v1]; exact v2
theorem int_trod {t : TypeId} (ht : P.underlying t = some (.int .i64)) (fuel : Nat) (cs : List Value) (x : DataW H × List MemPlace) (h : DataW.trod enc P W base sp hd fuel t cs = some x) : ∃ n : Int, All2 (SRep (sto W)) cs (encI n) := by
  obtain ⟨n, rfl, _, hn⟩ := DataW.trod_int ht h
  exact ⟨n, .cons (.int (by rw [inR_i64]; simpa [Lit.wf, IntKind.min, IntKind.max, IntKind.signed, IntKind.bits] using hn)) .nil⟩
theorem arg_int {t : TypeId} (ht : P.underlying t = some (.int .i64)) {r : Reach} {b0 : Nat} {v : Value} {d : DataW H} {p : List MemPlace} (hv : Value.okWide P W r b0 t v) (h : DataW.Trod enc P W base sp hd t v d p) : ∃ n : Int, VRep (sto W) noS noH v (aInt n) := by
  obtain ⟨n, rfl⟩ := okWide_int ht hv
  obtain ⟨fuel, hf⟩ := h
  obtain ⟨m, hm⟩ := int_trod ht fuel _ _ hf
  have : All2 (SRep (sto W)) [.int .i64 n] (encI m) := hm
  cases this with
  | cons h1 h2 => exact ⟨m, .one (.st h1)⟩
theorem arg_list {α : Type} {e0 : α → List SV} {t e : TypeId} {k : Nat} (ht : P.underlying t = some (.slice e)) (hc : P.cellsOf e = k) (hlen : ∀ a, (e0 a).length = k) (hk : 0 < k) {r : Reach} {b0 : Nat} {v : Value} {d : DataW H} {p : List MemPlace} (hv : Value.okWide P W r b0 t v)
    (f : ∀ (n : Nat) (cs : List Value) (y : DataW H × List MemPlace), DataW.trod enc P W base sp hd n e cs = some y → ∃ a : α, All2 (SRep (sto W)) cs (e0 a)) (h : DataW.Trod enc P W base sp hd t v d p) (hs : hardRows = true → k < 2 := by decide) : ∃ xs : List α, VRep (sto W) noS noH v (.one (.st (.list (xs.map e0)))) := by
  obtain ⟨a, len, cap, rfl⟩ := okWide_slice ht hv
  obtain ⟨fuel, hf⟩ := h
  obtain ⟨xs, hxs⟩ := list_of_trod ht hc hlen hk (fun n cs y _ hy => f n cs y hy) hf hs
  have : All2 (SRep (sto W)) [.slice a len cap] [.list (xs.map e0)] := hxs
  cases this with
  | cons h1 h2 => exact ⟨xs, .one (.st h1)⟩
end
theorem acalls_true {P : Program} {f : FuncId} {xs : List AV} {b : Bool} (h : ACalls P f xs (aBool b)) {σ : Sto} {w : World} {vs : List Value} (hg : GlobIn σ) (hf : Fit σ w) (hv : All2 (VRep σ noS noH) vs xs) :
    Calls P f vs.toArray w fun e w' => e = .returned (.bool b) ∧ Below w.heap.size w w' := (h σ w vs hg hf hv).mono fun e w' ⟨v, σ', he, hv, _, _, hb⟩ => by
  rw [vrep_bool hv] at he
  exact ⟨he, hb⟩

theorem laid_at {P : Program} {W : World} {x : String × DataW Unit} : ∀ {l : List (String × DataW Unit)} {ps : List MemPlace}, DataW.LaidVars P W l ps → x ∈ l → ∃ q, DataW.LaidVars P W [x] q
  | [], _, _, hx => by simp at hx
  | y :: l, ps, h, hx => by
    obtain ⟨n, d⟩ := y
    obtain ⟨g, t, cs, fuel, p, q, a1, a2, a3, a4, a5, a6⟩ := h
    rcases List.mem_cons.1 hx with rfl | hx
    · exact ⟨_, g, t, cs, fuel, p, [], a1, a2, a3, a4, rfl, rfl⟩
    · exact laid_at a5 hx
theorem size_sto {P : Program} {W : World} {n : String} {g : Nat} {cs : Array Value} (hg : P.globalNamed n = some g) (h : W.var? P n = some cs) : sto W ⟨g, cs.size, some 0⟩ = some .nilFunc := by
  unfold World.var? at h
  rw [hg] at h
  simp only [Option.bind_some] at h
  show look W _ = _
  unfold look
  simp only
  cases hb : W.heap[g]? with
  | none => rw [hb] at h; cases h
  | some o =>
    rw [hb] at h
    cases o <;> simp_all
theorem glob_tab {P : Program} {W : World} {name : String} {g : Nat} {t e : TypeId} {n : Nat} {k : IntKind} {zs : List Int} (hg : P.globalNamed name = some g) (hty : (P.globals[g]?).map (·.type) = some t) (ht : P.underlying t = some (.array n e)) (he : P.underlying e = some (.int k))
    (hce : P.cellsOf e = 1) (hct : P.cellsOf t = n) (hin : ∀ z ∈ zs, inR k z) {ps : List MemPlace} (h : DataW.LaidVars P W [(name, Lib.tabData k zs)] ps) : GlobAt (sto W) (g, zs.map fun z => .int k z) := by
  obtain ⟨g0, t0, cs0, f0, p0, q0, hg0, ht0, hv0, hd0, _, _⟩ := h
  obtain rfl := Option.some.inj (hg.symm.trans hg0)
  obtain rfl := Option.some.inj (hty.symm.trans ht0)
  have hc := Lib.cells_of_tab ht he hce hct hd0
  have hs : cs0.size = zs.length := by
    have := congrArg List.length hc
    simpa using this
  refine ⟨⟨fun j => (zs[j]?).elim .nilFunc (.int k), fun j a ha => ?_, fun j a ha => ?_⟩, ?_⟩
  · rw [List.getElem?_map, Option.map_eq_some_iff] at ha
    obtain ⟨z, hz, rfl⟩ := ha
    have h1 := World.var?_cell hg0 hv0 j
    have h2 : cs0[j]? = some (.int k z) := by
      have h3 := congrArg (fun l : List Value => l[j]?) hc
      simpa [hz] using h3
    show look W _ = _
    rw [look_none rfl, Nat.zero_add, h1, h2]
    simp only [hz, Option.elim]
  · rw [List.getElem?_map, Option.map_eq_some_iff] at ha
    obtain ⟨z, hz, rfl⟩ := ha
    simp only [hz, Option.elim]
    exact .int (hin z (List.mem_of_getElem? hz))
  · have := size_sto hg0 hv0
    rw [hs] at this
    simpa using this
theorem glob_err {P : Program} {W : World} {name nm : String} {d : DataW Unit} {g : Nat} {t : TypeId} {ms : Array (String × TypeId)} (hg : P.globalNamed name = some g) (hty : (P.globals[g]?).map (·.type) = some t) (ht : P.underlying t = some (.interface ms))
    {ps : List MemPlace} (h : DataW.LaidVars P W [(name, .iface nm d)] ps) : GlobAt (sto W) (g, [.err]) := by
  obtain ⟨g0, t0, cs0, f0, p0, q0, hg0, ht0, hv0, hd0, _, _⟩ := h
  obtain rfl := Option.some.inj (hg.symm.trans hg0)
  obtain rfl := Option.some.inj (hty.symm.trans ht0)
  obtain ⟨f1, u, v, hc, _, _⟩ := iface_of_trod ht hd0
  have hs : cs0.size = 1 := by
    have := congrArg List.length hc
    simpa using this
  refine ⟨⟨fun j => .iface u v, fun j a ha => ?_, fun j a ha => ?_⟩, ?_⟩
  · match j, ha with
    | 0, _ =>
      have h1 := World.var?_cell hg0 hv0 0
      have h2 : cs0[0]? = some (.iface u v) := by
        have h3 := congrArg (fun l : List Value => l[0]?) hc
        simpa using h3
      show look W _ = _
      rw [look_none rfl, Nat.zero_add, h1, h2]
    | j + 1, ha => simp at ha
  · match j, ha with
    | 0, ha =>
      cases ha
      exact .err
    | j + 1, ha => simp at ha
  · have := size_sto hg0 hv0
    rw [hs] at this
    simpa using this
theorem in_i64 {zs : List Int} (h : zs.all (fun z => decide (-9223372036854775808 ≤ z) && decide (z ≤ 9223372036854775807)) = true) : ∀ z ∈ zs, inR .i64 z := fun z hz => by
  have := List.all_eq_true.1 h z hz
  rw [inR_i64]
  simpa using this
theorem in_u64 {zs : List Int} (h : zs.all (fun z => decide (0 ≤ z) && decide (z ≤ 18446744073709551615)) = true) : ∀ z ∈ zs, inR .u64 z := fun z hz => by
  have := List.all_eq_true.1 h z hz
  simp only [Bool.and_eq_true, decide_eq_true_eq] at this
  simp [inR, IntKind.min, IntKind.max, IntKind.signed, IntKind.bits]
  omega
theorem glob_subs {W : World} {ps : List MemPlace} (h : DataW.LaidVars Tryd.prog W [("metaprune/lambda.subs", Rows.laid_metaprune_lambda_subs)] ps) : GlobAt (sto W) (0, [.int .i64 0, .int .i64 0, .int .i64 1, .int .i64 2, .int .i64 0, .int .i64 0]) := glob_tab (k := .i64) (zs := [0, 0, 1, 2, 0, 0]) (by kernel_rfl) (by kernel_rfl) Tryd.underlying80 Tryd.underlying3 (by kernel_rfl) (by kernel_rfl) (in_i64 (by decide)) h
theorem glob_pow {W : World} {ps : List MemPlace} (h : DataW.LaidVars Tryd.prog W [("internal/strconv.uint64pow10", Rows.laid_internal_strconv_uint64pow10)] ps) : GlobAt (sto W) (3, pow10s) := glob_tab (k := .u64) (zs := Lib.pow10Tab) (by kernel_rfl) (by kernel_rfl) Tryd.underlying123 Tryd.underlying104 (by kernel_rfl) (by kernel_rfl) (in_u64 (by decide)) h
theorem glob_syn {W : World} {ps : List MemPlace} (h : DataW.LaidVars Tryd.prog W [("strconv.ErrSyntax", Rows.laid_strconv_ErrSyntax)] ps) : GlobAt (sto W) (1, [.err]) := glob_err (by kernel_rfl) (by kernel_rfl) Tryd.underlying87 h

section
variable {H : Type} {enc : TypeId × Value → H} {W : World} {sp : Nat → Bool} {hd : Bool} {base : Nat}
set_option maxRecDepth 100000 in
set_option maxRecDepth 100000 in
theorem arg_ints {r : Reach} {b0 : Nat} {v : Value} {d : DataW H} {p : List MemPlace} (hv : Value.okWide Tryd.prog W r b0 22 v) (h : DataW.Trod enc Tryd.prog W base sp hd 22 v d p) : ∃ l : List Int, VRep (sto W) noS noH v (aInts l) :=
  arg_list (k := 1) Tryd.underlying22 (by kernel_rfl) (fun _ => rfl) (by decide) hv (int_trod Tryd.underlying3) h
end

end Go.Proofs.YtadjhfokddfbiaaDoor
namespace Go.Proofs.YtadjhfokddfbiaaDoor.topSubstitution
open Go Go.RowKit Go.ChangeShapes Go.WideShapes Go.ChangeAt
set_option linter.unusedVariables false
theorem globInM {W : World} (h : laidMetH Tryd.prog Rows.topSubstitutionRow.laid W) : GlobIn (sto W) := by
  rw [MakeChecks.laidMetH_plain _ _ _ (by kernel_rfl)] at h
  obtain ⟨ps, h, _, _⟩ := h
  obtain ⟨_, h1⟩ := laid_at (x := ("metaprune/lambda.subs", Rows.laid_metaprune_lambda_subs)) h (by simp [Rows.topSubstitutionRow])
  obtain ⟨_, h2⟩ := laid_at (x := ("internal/strconv.uint64pow10", Rows.laid_internal_strconv_uint64pow10)) h (by simp [Rows.topSubstitutionRow])
  obtain ⟨_, h3⟩ := laid_at (x := ("strconv.ErrSyntax", Rows.laid_strconv_ErrSyntax)) h (by simp [Rows.topSubstitutionRow])
  intro y hy
  simp only [globs, List.mem_cons, List.not_mem_nil, or_false] at hy
  rcases hy with rfl | rfl | rfl
  · exact glob_subs h1
  · exact glob_pow h2
  · exact glob_syn h3
theorem own : ownKnob Tryd.prog.godebug = none := by kernel_rfl
theorem laid : laidOutB Tryd.prog = true := by kernel_rfl
set_option maxRecDepth 100000 in
theorem contract (H : Type) (enc : TypeId × Value → H) (W : World) (base : Nat) (args : Array Value) (ds gs : List (DataW H)) (before : List MemPlace) (hL : laidMetH Tryd.prog Rows.topSubstitutionRow.laid W)
    (hval : ∀ (j : Nat) t v, Tryd.f3.params[j]? = some t → args[j]? = some v → Value.okWide Tryd.prog W .any base t v)
    (hW : DataW.Whole enc Tryd.prog Tryd.f3.params.toList Rows.topSubstitutionSpec.vars false W args.toList ds gs before) :
    Calls Tryd.prog 3 args W fun e W' => ∃ v, e = .returned v ∧ Rows.topSubstitutionSpec.post enc Tryd.prog Tryd.f3 false true false false W args v W' := by
  have hG := globInM hL
  obtain ⟨p, q, hA0, hV, rfl, hfz, hnd⟩ := id hW
  obtain ⟨rfl, rfl⟩ := trodVars_none hV
  have hA : DataW.TrodAll enc Tryd.prog W 0 (fun _ => true) true Tryd.f3.params.toList args.toList ds p := hA0
  rw [Tryd.params3] at hA hval
  obtain ⟨v0, v1, d0, d1, p0, p1, hargs, rfl, rfl, h0, h1⟩ := trodAll_two hA
  obtain rfl : args = #[v0, v1] := by cases args; simp_all
  obtain ⟨l, r0⟩ := arg_ints (hval 0 22 v0 rfl rfl) h0
  obtain ⟨m1, r1⟩ := arg_int Tryd.underlying3 (hval 1 3 v1 rfl rfl) h1
  have k0 := known_ints r0.known
  refine (acalls_true (topSubst_a l m1 k0.1 k0.2 r1.known) hG (fit_sto W) (vs := [v0, v1]) (.cons r0 (.cons r1 .nil))).mono fun e W' ⟨he, hb⟩ => ⟨_, he, ?_⟩
  exact law_post hW rfl rfl Tryd.underlying4 rfl rfl rfl laid (by kernel_rfl) hb
theorem door_met (os : Os) (args : Array Value) : laidMetH Tryd.prog Rows.topSubstitutionRow.laid ((World.doorLaid Tryd.prog 400 os).forCall (fun _ _ => 0) ⟨#[], args, []⟩).memory :=
  laidMetH_of_parts3 (fuel := 8) (laidMet_of_run' 8 (by kernel_rfl) (by kernel_rfl)) (by kernel_rfl) (by kernel_rfl)
set_option maxRecDepth 100000 in
theorem lifted (os : Os) (started : os.Started) (H : Type) (enc : TypeId × Value → H) :
    ReturnsInHanded {} Tryd.checked os 3 .any (fun w args => (Rows.topSubstitutionSpec.pre enc Tryd.prog Tryd.f3 [] false w args ∧ laidMetH Tryd.prog Rows.topSubstitutionRow.laid w) ∧ sizedMet enc Tryd.prog Tryd.f3 (OpenSpec.ofChange Rows.topSubstitutionSpec) false w args)
      (Rows.topSubstitutionSpec.post enc Tryd.prog Tryd.f3 false true false false) := by
  refine returnsInHanded_of_change_and (C := Tryd.checked) (X := fun w _ => laidMetH Tryd.prog Rows.topSubstitutionRow.laid w) (fun _ _ _ hh h => h.of_heap hh) own started (by kernel_rfl) Tryd.func3
    (ChangeSpec.witness_shaped (enc := enc) (C := Tryd.checked) (os := os) (X := fun w _ => laidMetH Tryd.prog Rows.topSubstitutionRow.laid w) false (World.doorLaid Tryd.prog 400 os) #[.slice none 0 0, .int .i64 0] 8 rfl (World.shaped_of_RefB (by kernel_rfl) (by kernel_rfl)) (by kernel_rfl) (by kernel_rfl) (by kernel_rfl) (door_met os _)) ?_
  intro W base args ds gs before hval hW _ _ hL _
  exact contract H enc W base args ds gs before hL hval hW
theorem row_holds : Rows.TopSubstitutionSaid :=
  OpenClaim.holds_of_wide 3 Tryd.f3 rfl rfl rfl rfl rfl rfl rfl ⟨rfl, rfl, rfl, rfl, rfl⟩ rfl rfl rfl rfl rfl (by kernel_rfl) Tryd.func3 (by kernel_rfl)
    (of_decide_eq_true (by kernel_rfl)) (by unfold Func.isWrapper; first | (rw [if_pos (by decide +kernel)]; kernel_rfl) | (rw [if_neg (by decide +kernel)]; exact ⟨rfl, rfl⟩))
    (fun os started H enc _ => lifted os started H enc)
theorem no_stand : (Tryd.f3.params.toList.all fun t => !Tryd.prog.wantsStandIn t) = true := by kernel_rfl
theorem proved : Rows.TopSubstitutionCardSaid :=
  Claim7.holds_tied_plain_at .later [] [.data, .data, .data, .sentinel, .sentinel, .data] true Rows.topSubstitutionCard.stood.harness Rows.topSubstitutionCard.stood.looks
    row_holds (fun _ h => by cases h) (by kernel_rfl) (fun _ h => by cases h) topSubstitution_row_tie rfl ⟨rfl, rfl⟩ (by kernel_rfl) rfl
    (fun f fn hf hfn => by
      obtain rfl : f = 3 := Option.some.inj ((show Tryd.prog.funcNamed "metaprune/metaprunetop.TopSubstitution" = some 3 by kernel_rfl).symm.trans hf) |>.symm
      obtain rfl : fn = Tryd.f3 := (Option.some.inj (Tryd.func3.symm.trans hfn)).symm
      exact ⟨by kernel_rfl, fun j t ht => by
        have h1 := List.all_eq_true.1 no_stand t (by rw [Array.mem_toList_iff]; exact Array.mem_of_getElem? ht)
        have h2 : Tryd.prog.wantsStandIn t = false := by simpa using h1
        exact h2⟩)
    (by kernel_rfl)

end Go.Proofs.YtadjhfokddfbiaaDoor.topSubstitution
