/-
  From a law's walk to the row: what comes in is opened (terms, texts, numbers, lists of these), and the row's post is shown of a call that answers true and turns nothing that was there.
  Conditions: none.
-/
import Derived.Test.YtkjbaabkaboaoaaRows
import Derived.Test.YtkjbaabkaboaoaaData
import Derived.ProofKit
import Derived.OpenShut
import Derived.JoinedCond
import Derived.Deep.Slices
namespace Go.Proofs.Ytkjbaabkaboaoaa
open Go Go.RowKit Go.ChangeShapes Go.WideShapes Go.ChangeAt
set_option maxHeartbeats 400000
set_option linter.unusedVariables false
open Cod (wid dat)

/-! ### the row's post -/
section
variable {H : Type} {enc : TypeId × Value → H} {P : Program}
theorem trodAll_stays (hl : laidOutB P = true) : ∀ {ts : List TypeId} {vs : List Value} {ds : List (DataW H)} {ps : List MemPlace} {W W' : World} {sp : Nat → Bool},
    (∀ t ∈ ts, P.readableRec t = true ∧ t < P.types.size) → DataW.TrodAll enc P W 0 (fun _ => true) true ts vs ds ps → (∀ p ∈ ps, W.sameAt W' p) → (∀ p ∈ ps, sp p.block = true) → DataW.TrodAll enc P W' 0 sp true ts vs ds ps
  | [], [], [], _, _, _, _, _, h, _, _ => h
  | _ :: _, _ :: _, _ :: _, _, _, _, _, hT, ⟨p, q, h1, h2, e⟩, hsame, hs => ⟨p, q, WideElems.Trod_stays hl (hT _ (List.mem_cons.2 (Or.inl rfl))).1 (hT _ (List.mem_cons.2 (Or.inl rfl))).2 h1 (fun x hx => hsame x (by rw [e]; exact List.mem_append_left _ hx)) (fun x hx => hs x (by rw [e]; exact List.mem_append_left _ hx)),
      trodAll_stays hl (fun t ht => hT t (List.mem_cons.2 (Or.inr ht))) h2 (fun x hx => hsame x (by rw [e]; exact List.mem_append_right _ hx)) (fun x hx => hs x (by rw [e]; exact List.mem_append_right _ hx)), e⟩
  | [], _ :: _, _, _, _, _, _, _, h, _, _ => h.elim
  | [], [], _ :: _, _, _, _, _, _, h, _, _ => h.elim
  | _ :: _, [], _, _, _, _, _, _, h, _, _ => h.elim
  | _ :: _, _ :: _, [], _, _, _, _, _, h, _, _ => h.elim

/-- A law that answers true, and below whose start nothing has turned. -/
theorem law_post {f : Func} {s : ChangeSpec} {apart fresh handsOn : Bool} {W W' : World} {args : Array Value} {ds : List (DataW H)} {before : List MemPlace} {tb : TypeId}
    (hW : DataW.Whole enc P f.params.toList s.vars apart W args.toList ds [] before) (hv : s.vars = []) (hr : f.resultTypes = #[tb]) (htb : P.underlying tb = some .bool)
    (hres : (s.fn H (ds ++ [])).results = [.lit (.bool true)]) (hargs : (s.fn H (ds ++ [])).args = ds) (hvs : (s.fn H (ds ++ [])).vars = [])
    (hl : laidOutB P = true) (hT : (f.params.toList.all fun t => P.readableRec t && decide (t < P.types.size)) = true) (hb : Below W.heap.size W W') :
    s.post enc P f apart fresh handsOn false W args (.bool true) W' := by
  have hlt : ∀ p ∈ before, p.block < W.heap.size := fun p hp => hW.lt p hp
  have hT' : ∀ t ∈ f.params.toList, P.readableRec t = true ∧ t < P.types.size := fun t ht => by
    have := List.all_eq_true.1 hT t ht
    simpa using this
  obtain ⟨p, q, hA, hV, rfl, hz, hn⟩ := hW
  rw [hv] at hV
  obtain ⟨_, rfl⟩ := trodVars_none hV
  have hargs' : ∀ sp : Nat → Bool, (∀ x ∈ p, sp x.block = true) → DataW.TrodAll enc P W' 0 sp true f.params.toList args.toList ds p := fun sp hsp =>
    trodAll_stays hl hT' hA (fun x hx => hb.same (hlt x (by simpa using hx))) hsp
  have hres' : ∀ (b : Nat) (sp : Nat → Bool) (hd : Bool), DataW.TrodAll enc P W' b sp hd f.resultTypes.toList ((Value.bool true).resultList f.resultTypes.size) (s.fn H (ds ++ [])).results [] := fun b sp hd => by
    rw [hres, hr]
    exact trodAll_cons_mk (shut_bool htb true) trodAll_mk0
  refine ⟨ds, [], p ++ [], [], p, [], ⟨p, [], hA, by rw [hv]; exact rfl, rfl, hz, hn⟩, hres' _ _ _, by rw [hargs]; exact hargs' _ (fun x hx => by simpa using hlt x (by simpa using hx)), by rw [hv, hvs]; exact rfl,
    World.keptBut_mono (fun x hx => ⟨hx, Or.inr (by simpa using hx)⟩) (hb.frame (· ∈ p ++ [])), fun h => by cases h⟩

/-! ### opening what comes in: the store is all of memory -/
variable {W : World} {sp : Nat → Bool} {hd : Bool} {base : Nat}
def sto (W : World) : Sto := fun p => W.cell? p
theorem fit_sto (W : World) : Fit (sto W) W := fun _ _ h => h

theorem RowIs.of_get {σ : Sto} {e : Nat} : ∀ {ds : List Dat} {b o : Nat}, (∀ k (h : k < ds.length), ∃ cs, cs.length = e ∧ (∀ j x, cs[j]? = some x → σ ⟨b, o + k * e + j, none⟩ = some x) ∧ ds[k].Is σ cs) → Dat.RowIs σ e ds b o
  | [], _, _, _ => trivial
  | d :: ds, b, o, h => by
    refine ⟨by obtain ⟨cs, h1, h2, h3⟩ := h 0 (by simp); exact ⟨cs, h1, by simpa using h2, h3⟩, RowIs.of_get fun k hk => ?_⟩
    obtain ⟨cs, h1, h2, h3⟩ := h (k + 1) (by simpa using hk)
    refine ⟨cs, h1, fun j x hj => ?_, by simpa using h3⟩
    rw [← h2 j x hj]
    congr 2
    rw [Nat.add_mul]
    omega
theorem spot_none {W : World} {a : Addr} {v : Value} (h : W.cell? a = some v) : a.spot = none := by
  cases hs : a.spot with
  | none => rfl
  | some n =>
    unfold World.cell? at h
    split at h
    · simp [hs] at h
    · cases h
theorem choose_list {α : Type} {p : Nat → α → Prop} {n : Nat} (h : ∀ i, i < n → ∃ b, p i b) : ∃ xs : List α, xs.length = n ∧ ∀ i (h : i < xs.length), p i xs[i] := by
  induction n with
  | zero => exact ⟨[], rfl, fun i h => absurd h (by simp)⟩
  | succ m ih =>
    obtain ⟨xs, h1, h2⟩ := ih (fun i hi => h i (by omega))
    obtain ⟨b, h3⟩ := h m (by omega)
    refine ⟨xs ++ [b], by simp [h1], fun i hi => ?_⟩
    by_cases him : i < xs.length
    · rw [List.getElem_append_left him]
      exact h2 i him
    · have : i = xs.length := by simp at hi; omega
      subst this
      rw [show (xs ++ [b])[xs.length]'hi = b by simp, h1]
      exact h3
/-- A struct of two fields. -/
theorem trod_two {t : TypeId} {f0 f1 : Field} {k0 k1 : Nat} {fuel : Nat} {cs : List Value} {x : DataW H × List MemPlace} (hs : P.underlying t = some (.struct #[f0, f1])) (o0 : f0.offset = 0) (o1 : f1.offset = k0)
    (h0 : P.cellsOf f0.type = k0) (h1 : P.cellsOf f1.type = k1) (hC : P.cellsOf t = k0 + k1) (h : DataW.trod enc P W base sp hd fuel t cs = some x) :
    ∃ (a b : List Value) (y0 y1 : DataW H × List MemPlace) (n : Nat), fuel = n + 1 ∧ cs = a ++ b ∧ DataW.trod enc P W base sp hd n f0.type a = some y0 ∧ DataW.trod enc P W base sp hd n f1.type b = some y1 := by
  obtain ⟨ys, n, hn, _, hlen, hyl, hf⟩ := DataW.trod_struct hs h
  match ys, hyl with
  | [y0, y1], _ =>
  have g0 := hf 0 f0 rfl
  have g1 := hf 1 f1 rfl
  rw [o0, h0, List.drop_zero] at g0
  rw [o1, h1, List.take_of_length_le (by rw [List.length_drop]; omega)] at g1
  exact ⟨_, _, y0, y1, n, hn, (List.take_append_drop k0 cs).symm, g0, g1⟩
/-- A struct of three fields. -/
theorem trod_three {t : TypeId} {f0 f1 f2 : Field} {k0 k1 k2 : Nat} {fuel : Nat} {cs : List Value} {x : DataW H × List MemPlace} (hs : P.underlying t = some (.struct #[f0, f1, f2])) (o0 : f0.offset = 0) (o1 : f1.offset = k0) (o2 : f2.offset = k0 + k1)
    (h0 : P.cellsOf f0.type = k0) (h1 : P.cellsOf f1.type = k1) (h2 : P.cellsOf f2.type = k2) (hC : P.cellsOf t = k0 + k1 + k2) (h : DataW.trod enc P W base sp hd fuel t cs = some x) :
    ∃ (a b c : List Value) (y0 y1 y2 : DataW H × List MemPlace) (n : Nat), fuel = n + 1 ∧ cs = a ++ (b ++ c) ∧ DataW.trod enc P W base sp hd n f0.type a = some y0 ∧ DataW.trod enc P W base sp hd n f1.type b = some y1 ∧ DataW.trod enc P W base sp hd n f2.type c = some y2 := by
  obtain ⟨ys, n, hn, _, hlen, hyl, hf⟩ := DataW.trod_struct hs h
  match ys, hyl with
  | [y0, y1, y2], _ =>
  have g0 := hf 0 f0 rfl
  have g1 := hf 1 f1 rfl
  have g2 := hf 2 f2 rfl
  rw [o0, h0, List.drop_zero] at g0
  rw [o1, h1] at g1
  rw [o2, h2, List.take_of_length_le (by rw [List.length_drop]; omega), ← List.drop_drop] at g2
  exact ⟨_, _, _, y0, y1, y2, n, hn, by rw [List.take_append_drop, List.take_append_drop], g0, g1, g2⟩
/-- A slice, its elements opened by f. -/
theorem slc_of_trod {α : Type} [Cod α] {t e : TypeId} {fuel : Nat} {cs : List Value} {x : DataW H × List MemPlace} (ht : P.underlying t = some (.slice e)) (hc : P.cellsOf e = wid α) (hw : 0 < wid α)
    (f : ∀ (n : Nat) (cs : List Value) (y : DataW H × List MemPlace), n < fuel → DataW.trod enc P W base sp hd n e cs = some y → ∃ a : α, Cells (sto W) cs a)
    (h : DataW.trod enc P W base sp hd fuel t cs = some x) : ∃ xs : List α, Cells (sto W) cs xs := by
  rcases DataW.trod_slice ht h with ⟨rfl, _⟩ | ⟨a, len, cap, elems, rest, n, hfu, rfl, _, hb, hl, hm, hlen, hel, _, _⟩
  · exact ⟨[], cells_list.2 ⟨none, 0, 0, rfl, Slc.nil _⟩⟩
  · have key : ∀ i, i < len → ∃ (b : α) (cs' : List Value), cs'.length = wid α ∧ (∀ j u, cs'[j]? = some u → W.cell? ((a.add (i * wid α)).add j) = some u) ∧ Cells (sto W) cs' b := fun i hi => by
      have h1 := hel i hi
      rw [List.getElem?_eq_getElem (by omega)] at h1
      obtain ⟨cs', h2, h3⟩ := Option.bind_eq_some_iff.1 h1
      obtain ⟨_, h4, h5⟩ := World.cells?_some h2
      obtain ⟨b, hb⟩ := f n cs' _ (by omega) h3
      rw [hc] at h4 h5
      refine ⟨b, cs', h4, fun j u hj => ?_, hb⟩
      rw [h5 j (by have := lt_of_get hj; omega)]
      exact hj
    obtain ⟨xs, hxl, hxs⟩ : ∃ xs : List α, xs.length = len ∧ ∀ i (h : i < xs.length), ∃ cs' : List Value, cs'.length = wid α ∧ (∀ j u, cs'[j]? = some u → W.cell? ((a.add (i * wid α)).add j) = some u) ∧ Cells (sto W) cs' xs[i] := by
      exact choose_list key
    refine ⟨xs, cells_list.2 ⟨some a, len, cap, rfl, hxl.symm, hl, hm, by simp, a.block, a.off, fun h0 => ?_, RowIs.of_get fun k hk => ?_⟩⟩
    · obtain ⟨cs', h1, h2, h3⟩ := hxs 0 (by omega)
      have h4 : W.cell? a = some (cs'[0]'(by omega)) := by
        have := h2 0 _ (List.getElem?_eq_getElem (by omega))
        simpa [Addr.add] using this
      have := spot_none h4
      cases a
      simp_all
    · have hk' : k < xs.length := by simpa using hk
      obtain ⟨cs', h1, h2, h3⟩ := hxs k hk'
      refine ⟨cs', h1, fun j u hj => ?_, by simpa [Cells] using h3⟩
      have := h2 j u hj
      have hsp := spot_none this
      show W.cell? _ = _
      rw [← this]
      congr 1
      have hadd : ∀ m, (a.add m).block = a.block ∧ (a.add m).off = a.off + m := fun m => by unfold Addr.add; split <;> simp_all
      have h6 := hadd (k * wid α)
      have h7 : ((a.add (k * wid α)).add j).block = a.block ∧ ((a.add (k * wid α)).add j).off = a.off + k * wid α + j := by
        unfold Addr.add at h6 ⊢
        split <;> split <;> simp_all
      generalize (a.add (k * wid α)).add j = q at *
      cases q
      simp_all
end

section
variable {H : Type} {enc : TypeId × Value → H} {W : World} {sp : Nat → Bool} {hd : Bool} {base : Nat}
set_option maxRecDepth 100000 in
theorem tm_of_trod : ∀ (fuel : Nat) (cs : List Value) (x : DataW H × List MemPlace), DataW.trod enc Try.prog W base sp hd fuel 25 cs = some x → ∃ t : Tm, Cells (sto W) cs t := by
  intro fuel
  induction fuel using Nat.strongRecOn with
  | _ fuel ih =>
  intro cs x h
  obtain ⟨a, b, y0, y1, n, hn, rfl, h0, h1⟩ := trod_two Try.underlying25 rfl rfl (show Try.prog.cellsOf 9 = 1 by kernel_rfl) (show Try.prog.cellsOf 23 = 1 by kernel_rfl) (show Try.prog.cellsOf 25 = 2 by kernel_rfl) h
  obtain ⟨s, e0, _, hs⟩ := DataW.trod_string Try.underlying9 h0
  obtain ⟨xs, hxs⟩ := slc_of_trod (α := Tm) Try.underlying23 (show Try.prog.cellsOf 25 = 2 by kernel_rfl) (by decide) (fun m cs y hm hy => ih m (by omega) cs y hy) h1
  obtain ⟨p, len, cap, e1, hsl⟩ := cells_list.1 hxs
  subst e0 e1
  exact ⟨.mk s xs, cells_tm.2 ⟨p, len, cap, rfl, hs, hsl⟩⟩
set_option maxRecDepth 100000 in
theorem int_of_trod (fuel : Nat) (cs : List Value) (x : DataW H × List MemPlace) (h : DataW.trod enc Try.prog W base sp hd fuel 3 cs = some x) : ∃ n : Int, Cells (sto W) cs n := by
  obtain ⟨n, rfl, _, hn⟩ := DataW.trod_int Try.underlying3 h
  exact ⟨n, rfl, hn⟩
set_option maxRecDepth 100000 in
theorem str_of_trod (fuel : Nat) (cs : List Value) (x : DataW H × List MemPlace) (h : DataW.trod enc Try.prog W base sp hd fuel 9 cs = some x) : ∃ s : ByteArray, Cells (sto W) cs s := by
  obtain ⟨s, rfl, _, hs⟩ := DataW.trod_string Try.underlying9 h
  exact ⟨s, rfl, hs⟩
set_option maxRecDepth 100000 in
/-- An argument that is a term. -/
theorem open_tm {r : Reach} {b0 : Nat} {v : Value} {d : DataW H} {p : List MemPlace} (hv : Value.okWide Try.prog W r b0 25 v) (h : DataW.Trod enc Try.prog W base sp hd 25 v d p) : ∃ t : Tm, TmV (sto W) v t := by
  obtain ⟨cs, rfl, hsz⟩ := okWide_struct Try.underlying25 hv
  obtain ⟨fuel, hf⟩ := h
  obtain ⟨t, ht⟩ := tm_of_trod fuel _ _ hf
  obtain ⟨q, len, cap, e, hn, hsl⟩ := cells_tm.1 ht
  refine ⟨t, q, len, cap, ?_, hn, hsl⟩
  obtain ⟨l⟩ := cs
  simp [Value.cells] at e
  rw [e]
set_option maxRecDepth 100000 in
/-- An argument that is a slice of ints. -/
theorem open_intsl {r : Reach} {b0 : Nat} {v : Value} {d : DataW H} {p : List MemPlace} (hv : Value.okWide Try.prog W r b0 31 v) (h : DataW.Trod enc Try.prog W base sp hd 31 v d p) :
    ∃ (xs : List Int) (q : Option Addr) (len cap : Nat), v = .slice q len cap ∧ Slc (sto W) q len cap xs := by
  obtain ⟨a, len, cap, rfl⟩ := okWide_slice Try.underlying31 hv
  obtain ⟨fuel, hf⟩ := h
  obtain ⟨xs, hxs⟩ := slc_of_trod (α := Int) Try.underlying31 (by kernel_rfl) (by decide) (fun m cs y _ hy => int_of_trod m cs y hy) hf
  obtain ⟨q, l, c, e, hsl⟩ := cells_list.1 hxs
  simp [Value.cells] at e
  obtain ⟨rfl, rfl, rfl⟩ := e
  exact ⟨xs, _, _, _, rfl, hsl⟩
end
end Go.Proofs.Ytkjbaabkaboaoaa
