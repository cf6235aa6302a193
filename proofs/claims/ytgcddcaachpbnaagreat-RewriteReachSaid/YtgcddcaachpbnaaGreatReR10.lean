/-
  Proved: for all rules and terms, all that is reached is what G4 says: the law RewriteReach returns true. Conditions: none.
-/
import Derived.Test.YtgcddcaachpbnaaGreatReR9
import Derived.Test.YtgcddcaachpbnaaGreatRows
import Derived.ProofKit
import Derived.OpenShut
import Derived.JoinedCond
import Derived.Deep.Slices
namespace Go.Proofs.YtgcddcaachpbnaaGreat
open Go Go.RowKit Go.ChangeShapes Go.WideShapes Go.ChangeAt
set_option maxHeartbeats 400000
set_option linter.unusedVariables false
section
variable {H : Type} {enc : TypeId × Value → H} {P : Program}
theorem FE (hl : laidOutB P = true) : ∀ {ts : List TypeId} {vs : List Value} {ds : List (DataW H)} {ps : List MemPlace} {W W' : World} {sp : Nat → Bool},
  (∀ t ∈ ts, P.readableRec t = true ∧ t < P.types.size) → DataW.TrodAll enc P W 0 (fun _ => true) true ts vs ds ps → (∀ p ∈ ps, W.sameAt W' p) → (∀ p ∈ ps, sp p.block = true) → DataW.TrodAll enc P W' 0 sp true ts vs ds ps
 | [], [], [], _, _, _, _, _, h, _, _ => h
 | _ :: _, _ :: _, _ :: _, _, _, _, _, hT, ⟨p, q, h1, h2, e⟩, hsame, hs => ⟨p, q, WideElems.Trod_stays hl (hT _ (List.mem_cons.2 (Or.inl rfl))).1 (hT _ (List.mem_cons.2 (Or.inl rfl))).2 h1 (fun x hx => hsame x (by rw [e]; exact List.mem_append_left _ hx)) (fun x hx => hs x (by rw [e]; exact List.mem_append_left _ hx)),
   FE hl (fun t ht => hT t (List.mem_cons.2 (Or.inr ht))) h2 (fun x hx => hsame x (by rw [e]; exact List.mem_append_right _ hx)) (fun x hx => hs x (by rw [e]; exact List.mem_append_right _ hx)), e⟩
 | [], _ :: _, _, _, _, _, _, _, h, _, _ => h.elim
 | [], [], _ :: _, _, _, _, _, _, h, _, _ => h.elim
 | _ :: _, [], _, _, _, _, _, _, h, _, _ => h.elim
 | _ :: _, _ :: _, [], _, _, _, _, _, h, _, _ => h.elim
theorem QF {f : Func} {s : ChangeSpec} {apart fresh handsOn : Bool} {W W' : World} {args : Array Value} {ds : List (DataW H)} {before : List MemPlace} {tb : TypeId}
  (hW : DataW.Whole enc P f.params.toList s.vars apart W args.toList ds [] before) (hv : s.vars = []) (hr : f.resultTypes = #[tb]) (htb : P.underlying tb = some .bool)
  (hres : (s.fn H (ds ++ [])).results = [.lit (.bool true)]) (hargs : (s.fn H (ds ++ [])).args = ds) (hvs : (s.fn H (ds ++ [])).vars = [])
  (hl : laidOutB P = true) (hT : (f.params.toList.all fun t => P.readableRec t && decide (t < P.types.size)) = true) (hb : Below W.heap.size W W') :
  s.post enc P f apart fresh handsOn false W args (.bool true) W' := by
 have hlt : ∀ p ∈ before, p.block < W.heap.size := fun p hp => hW.lt p hp
 have hT' : ∀ t ∈ f.params.toList, P.readableRec t = true ∧ t < P.types.size := fun t ht => by
  have := List.all_eq_true.1 hT t ht
  simpa using this
 obtain ⟨p, q, hA, hV, rfl, hz, hn⟩ := hW
 rw [hv] at hV
 obtain ⟨_, rfl⟩ := trodVars_none hV
 have hargs' : ∀ sp : Nat → Bool, (∀ x ∈ p, sp x.block = true) → DataW.TrodAll enc P W' 0 sp true f.params.toList args.toList ds p := fun sp hsp =>
  FE hl hT' hA (fun x hx => hb.same (hlt x (by simpa using hx))) hsp
 have hres' : ∀ (b : Nat) (sp : Nat → Bool) (hd : Bool), DataW.TrodAll enc P W' b sp hd f.resultTypes.toList ((Value.bool true).resultList f.resultTypes.size) (s.fn H (ds ++ [])).results [] := fun b sp hd => by
  rw [hres, hr]
  exact trodAll_cons_mk (shut_bool htb true) trodAll_mk0
 refine ⟨ds, [], p ++ [], [], p, [], ⟨p, [], hA, by rw [hv]; exact rfl, rfl, hz, hn⟩, hres' _ _ _, by rw [hargs]; exact hargs' _ (fun x hx => by simpa using hlt x (by simpa using hx)), by rw [hv, hvs]; exact rfl,
  World.keptBut_mono (fun x hx => ⟨hx, Or.inr (by simpa using hx)⟩) (hb.frame (· ∈ p ++ [])), fun h => by cases h⟩
variable {W : World} {sp : Nat → Bool} {hd : Bool} {base : Nat}
def sto (W : World) : Sto := CW W
theorem Qd (W : World) : Fit (sto W) W := fun _ _ h => h
theorem Jb {W : World} {a : Addr} {v : Value} (h : W.cell? a = some v) : a.spot = none := by
 cases hs : a.spot with
 | none => rfl
 | some n =>
  unfold World.cell? at h
  split at h
  ·simp [hs] at h
  ·cases h
theorem ML {α : Type} {p : Nat → α → Prop} {n : Nat} (h : ∀ i, i < n → ∃ b, p i b) : ∃ xs : List α, xs.length = n ∧ ∀ i (h : i < xs.length), p i xs[i] := by
 induction n with
 | zero => exact ⟨[], rfl, fun i h => absurd h (by simp)⟩
 | succ m ih =>
  obtain ⟨xs, h1, h2⟩ := ih (fun i hi => h i (by omega))
  obtain ⟨b, h3⟩ := h m (by omega)
  refine ⟨xs ++ [b], by simp [h1], fun i hi => ?_⟩
  by_cases him : i < xs.length
  ·rw [List.getElem_append_left him]
   exact h2 i him
  ·have : i = xs.length := by simp at hi; omega
   subst this
   rw [show (xs ++ [b])[xs.length]'hi = b by simp, h1]
   exact h3
theorem Ll {t : TypeId} {f0 f1 : Field} {k0 k1 : Nat} {fuel : Nat} {cs : List Value} {x : DataW H × List MemPlace} (hs : P.underlying t = some (.struct #[f0, f1])) (o0 : f0.offset = 0) (o1 : f1.offset = k0)
  (h0 : P.cellsOf f0.type = k0) (h1 : P.cellsOf f1.type = k1) (hC : P.cellsOf t = k0 + k1) (h : DataW.trod enc P W base sp hd fuel t cs = some x) :
  ∃ (a b : List Value) (y0 y1 : DataW H × List MemPlace) (n : Nat), fuel = n + 1 ∧ cs = a ++ b ∧ DataW.trod enc P W base sp hd n f0.type a = some y0 ∧ DataW.trod enc P W base sp hd n f1.type b = some y1 := by
 obtain ⟨ys, n, hn, _, hlen, hyl, hf⟩ := DataW.trod_struct hs h
 match ys, hyl with
 | [y0, y1], _ =>
 have g0 := hf 0 f0 rfl
 have g1 := hf 1 f1 rfl
 rw [o0, h0, List.drop_zero] at g0
 rw [o1, h1, List.take_of_length_le (by rw [List.length_drop]; omega)] at g1
 exact ⟨_, _, y0, y1, n, hn, (List.take_append_drop k0 cs).symm, g0, g1⟩
theorem F2 {α : Type} {e0 : α → List SV} {t e : TypeId} {k : Nat} {fuel : Nat} {cs : List Value} {x : DataW H × List MemPlace} (ht : P.underlying t = some (.slice e)) (hc : P.cellsOf e = k) (hlen : ∀ a, (e0 a).length = k) (hk : 0 < k)
  (f : ∀ (n : Nat) (cs : List Value) (y : DataW H × List MemPlace), n < fuel → DataW.trod enc P W base sp hd n e cs = some y → ∃ a : α, AY (Ap (sto W)) cs (e0 a))
  (h : DataW.trod enc P W base sp hd fuel t cs = some x) (hs : Bl = true → k < 2 := by decide) : ∃ xs : List α, AY (Ap (sto W)) cs [.list (xs.map e0)] := by
 rcases DataW.trod_slice ht h with ⟨rfl, _⟩ | ⟨a, len, cap, Co, rest, n, hfu, rfl, _, hb, hl, hm, hlen', hel, _, _⟩
 ·exact ⟨[], .cons Lt .nil⟩
 ·have key : ∀ i, i < len → ∃ (b : α), ∃ (cs' : List Value), cs'.length = k ∧ (∀ j u, cs'[j]? = some u → W.cell? ((a.add (i * k)).add j) = some u) ∧ AY (Ap (sto W)) cs' (e0 b) := fun i hi => by
   have h1 := hel i hi
   rw [List.getElem?_eq_getElem (by omega)] at h1
   obtain ⟨cs', h2, h3⟩ := Option.bind_eq_some_iff.1 h1
   obtain ⟨_, h4, h5⟩ := World.cells?_some h2
   obtain ⟨b, hb⟩ := f n cs' _ (by omega) h3
   rw [hc] at h4 h5
   refine ⟨b, cs', h4, fun j u hj => ?_, hb⟩
   rw [h5 j (by have := (List.getElem?_eq_some_iff.1 hj).1; omega)]
   exact hj
  obtain ⟨xs, hxl, hxs⟩ : ∃ xs : List α, xs.length = len ∧ ∀ i (h : i < xs.length), ∃ cs' : List Value, cs'.length = k ∧ (∀ j u, cs'[j]? = some u → W.cell? ((a.add (i * k)).add j) = some u) ∧ AY (Ap (sto W)) cs' (e0 xs[i]) := ML key
  have cell : ∀ m y j z, (xs.map e0)[m]? = some y → y[j]? = some z → ∃ v, W.cell? ⟨a.block, a.off + m * k + j, none⟩ = some v ∧ Ap (sto W) v z := fun m y j z hy hz => by
   rw [List.getElem?_map, Option.map_eq_some_iff] at hy
   obtain ⟨b, hb', rfl⟩ := hy
   obtain ⟨hm', hbe⟩ := List.getElem?_eq_some_iff.1 hb'
   obtain ⟨cs', c1, c2, c3⟩ := hxs m hm'
   rw [hbe] at c3
   obtain ⟨v, v1, v2⟩ := c3.get hz
   refine ⟨v, ?_, v2⟩
   have := c2 j v v1
   have hsp := Jb this
   rw [← this]
   congr 1
   have h7 : ((a.add (m * k)).add j).block = a.block ∧ ((a.add (m * k)).add j).off = a.off + m * k + j := by
    unfold Addr.add
    split <;> split <;> simp_all
   generalize (a.add (m * k)).add j = q at *
   cases q
   simp_all
  refine ⟨xs, .cons (.list (b := a.block) (o := a.off) (w := k) (fun m j => (W.cell? ⟨a.block, a.off + m * k + j, none⟩).getD undef) (by simp [hxl]) hl hm (by simp) (fun h0 => ?_) (fun y hy => ?_) (fun q1 q2 _ => absurd (hs q1) (by omega)) (fun m y j z hy hz => ?_) (fun m y j z hy hz => ?_)) .nil⟩
  ·obtain ⟨cs', h1, h2, h3⟩ := hxs 0 (by omega)
   have h4 : W.cell? a = some (cs'[0]'(by omega)) := by
    have := h2 0 _ (List.getElem?_eq_getElem (by omega))
    simpa [Addr.add] using this
   have := Jb h4
   cases a
   simp_all
  ·obtain ⟨b, _, rfl⟩ := List.mem_map.1 hy
   exact hlen b
  ·obtain ⟨v, v1, v2⟩ := cell m y j z hy hz
   show W.cell? _ = _
   rw [v1]; rfl
  ·obtain ⟨v, v1, v2⟩ := cell m y j z hy hz
   rw [v1]; exact v2
theorem QM {t : TypeId} (ht : P.underlying t = some .string) (fuel : Nat) (cs : List Value) (x : DataW H × List MemPlace) (h : DataW.trod enc P W base sp hd fuel t cs = some x) : ∃ s : ByteArray, AY (Ap (sto W)) cs (Bj s) := by
 obtain ⟨s, rfl, _, hs⟩ := DataW.trod_string ht h
 exact ⟨s, .cons (.str hs) .nil⟩
theorem Pz {α : Type} {e0 : α → List SV} {t e : TypeId} {k : Nat} (ht : P.underlying t = some (.slice e)) (hc : P.cellsOf e = k) (hlen : ∀ a, (e0 a).length = k) (hk : 0 < k) {r : Reach} {b0 : Nat} {v : Value} {d : DataW H} {p : List MemPlace} (hv : Value.okWide P W r b0 t v)
  (f : ∀ (n : Nat) (cs : List Value) (y : DataW H × List MemPlace), DataW.trod enc P W base sp hd n e cs = some y → ∃ a : α, AY (Ap (sto W)) cs (e0 a)) (h : DataW.Trod enc P W base sp hd t v d p) (hs : Bl = true → k < 2 := by decide) : ∃ xs : List α, AN (sto W) noS noH v (.one (.st (.list (xs.map e0)))) := by
 obtain ⟨a, len, cap, rfl⟩ := okWide_slice ht hv
 obtain ⟨fuel, hf⟩ := h
 obtain ⟨xs, hxs⟩ := F2 ht hc hlen hk (fun n cs y _ hy => f n cs y hy) hf hs
 have : AY (Ap (sto W)) [.slice a len cap] [.list (xs.map e0)] := hxs
 cases this with
 | cons h1 h2 => exact ⟨xs, .one (.st h1)⟩
theorem Mr {α : Type} {e0 : α → List SV} {t : TypeId} {fs : Array Field} (ht : P.underlying t = some (.struct fs)) {r : Reach} {b0 : Nat} {v : Value} {d : DataW H} {p : List MemPlace} (hv : Value.okWide P W r b0 t v)
  (f : ∀ (n : Nat) (cs : List Value) (y : DataW H × List MemPlace), DataW.trod enc P W base sp hd n t cs = some y → ∃ a : α, AY (Ap (sto W)) cs (e0 a)) (h : DataW.Trod enc P W base sp hd t v d p) : ∃ a : α, AN (sto W) noS noH v (.agg ((e0 a).map .st)) := by
 obtain ⟨cs, rfl, hsz⟩ := okWide_struct ht hv
 obtain ⟨fuel, hf⟩ := h
 obtain ⟨a, ha⟩ := f fuel _ _ hf
 exact ⟨a, .agg ((AY.mono (fun _ _ h => .st h) ha).map_right)⟩
end
theorem NN {σ : Sto} (h : MJ = [] := by rfl) : B6 σ := fun x hx => by simp [h] at hx
theorem Lw {P : Program} {f : FuncId} {xs : List AV} {b : Bool} (h : AT P f xs (Ah b)) {σ : Sto} {w : World} {vs : List Value} (hg : B6 σ) (hf : Fit σ w) (hv : AY (AN σ noS noH) vs xs) :
  Calls P f vs.toArray w fun e w' => e = .returned (.bool b) ∧ Below w.heap.size w w' := (h σ w vs hg hf hv).mono fun e w' ⟨v, σ', he, hv, _, _, hb⟩ => by
 rw [CY hv] at he
 exact ⟨he, hb⟩

section
variable {H : Type} {enc : TypeId × Value → H} {W : World} {sp : Nat → Bool} {hd : Bool} {base : Nat}
set_option maxRecDepth 100000 in
theorem LC : ∀ (fuel : Nat) (cs : List Value) (x : DataW H × List MemPlace), DataW.trod enc Tryz.prog W base sp hd fuel 25 cs = some x → ∃ t : Tm, AY (Ap (sto W)) cs (Ae t) := by
 intro fuel
 induction fuel using Nat.strongRecOn with
 | _ fuel ih =>
 intro cs x h
 obtain ⟨a, b, y0, y1, n, hn, rfl, h0, h1⟩ := Ll Tryz.underlying25 rfl rfl (show Tryz.prog.cellsOf 9 = 1 by kernel_rfl) (show Tryz.prog.cellsOf 23 = 1 by kernel_rfl) (show Tryz.prog.cellsOf 25 = 2 by kernel_rfl) h
 obtain ⟨s, hs⟩ := QM Tryz.underlying9 _ _ _ h0
 obtain ⟨xs, hxs⟩ := F2 (e0 := Ae) Tryz.underlying23 (show Tryz.prog.cellsOf 25 = 2 by kernel_rfl) (fun a => by rw [Ba]; rfl) (by decide) (fun m cs y hm hy => ih m (by omega) cs y hy) h1
 exact ⟨.mk s xs, by rw [Ba]; exact hs.append hxs⟩
set_option maxRecDepth 100000 in
theorem RW {r : Reach} {b0 : Nat} {v : Value} {d : DataW H} {p : List MemPlace} (hv : Value.okWide Tryz.prog W r b0 25 v) (h : DataW.Trod enc Tryz.prog W base sp hd 25 v d p) : ∃ t : Tm, AN (sto W) noS noH v (aTm t) := by
 obtain ⟨t, ht⟩ := Mr Tryz.underlying25 hv LC h
 exact ⟨t, by rw [Ba] at ht; exact ht⟩
end

section
variable {H : Type} {enc : TypeId × Value → H} {W : World} {sp : Nat → Bool} {hd : Bool} {base : Nat}
set_option maxRecDepth 100000 in
theorem Qv (fuel : Nat) (cs : List Value) (x : DataW H × List MemPlace) (h : DataW.trod enc Tryz.prog W base sp hd fuel 34 cs = some x) : ∃ p : Pr, AY (Ap (sto W)) cs (Db p) := by
 obtain ⟨a, b, y0, y1, n, hn, rfl, h0, h1⟩ := Ll Tryz.underlying34 rfl rfl (show Tryz.prog.cellsOf 25 = 2 by kernel_rfl) (show Tryz.prog.cellsOf 25 = 2 by kernel_rfl) (show Tryz.prog.cellsOf 34 = 4 by kernel_rfl) h
 obtain ⟨s, hs⟩ := LC _ _ _ h0
 obtain ⟨t, ht⟩ := LC _ _ _ h1
 rw [Ba] at hs ht
 exact ⟨(s, t), hs.append ht⟩
set_option maxRecDepth 100000 in
theorem RC {r : Reach} {b0 : Nat} {v : Value} {d : DataW H} {p : List MemPlace} (hv : Value.okWide Tryz.prog W r b0 22 v) (h : DataW.Trod enc Tryz.prog W base sp hd 22 v d p) : ∃ l : List Pr, AN (sto W) noS noH v (Cx l) :=
 Pz (k := 4) Tryz.underlying22 (by kernel_rfl) (fun _ => rfl) (by decide) hv Qv h
end

end Go.Proofs.YtgcddcaachpbnaaGreat
namespace Go.Proofs.YtgcddcaachpbnaaGreat.rewriteReach
open Go Go.RowKit Go.ChangeShapes Go.WideShapes Go.ChangeAt
set_option linter.unusedVariables false
theorem own : ownKnob Tryz.prog.godebug = none := by kernel_rfl
theorem R9 : laidOutB Tryz.prog = true := by kernel_rfl
set_option maxRecDepth 100000 in
theorem Pf (H : Type) (enc : TypeId × Value → H) (W : World) (base : Nat) (args : Array Value) (ds gs : List (DataW H)) (before : List MemPlace)
  (hval : ∀ (j : Nat) t v, Tryz.f3.params[j]? = some t → args[j]? = some v → Value.okWide Tryz.prog W .any base t v)
  (hW : DataW.Whole enc Tryz.prog Tryz.f3.params.toList Rows.rewriteReachSpec.vars false W args.toList ds gs before) :
  Calls Tryz.prog 3 args W fun e W' => ∃ v, e = .returned v ∧ Rows.rewriteReachSpec.post enc Tryz.prog Tryz.f3 false true false false W args v W' := by
 obtain ⟨p, q, hA0, hV, rfl, hfz, hnd⟩ := id hW
 obtain ⟨rfl, rfl⟩ := trodVars_none hV
 have hA : DataW.TrodAll enc Tryz.prog W 0 (fun _ => true) true Tryz.f3.params.toList args.toList ds p := hA0
 rw [Tryz.params3] at hA hval
 obtain ⟨v0, v1, d0, d1, p0, p1, hargs, rfl, rfl, h0, h1⟩ := trodAll_two hA
 obtain rfl : args = #[v0, v1] := by cases args; simp_all
 obtain ⟨R, r0⟩ := RC (hval 0 22 v0 rfl rfl) h0
 obtain ⟨t, r1⟩ := RW (hval 1 25 v1 rfl rfl) h1
 refine (Lw (Ik R t) NN (Qd W) (vs := [v0, v1]) (.cons r0 (.cons r1 .nil))).mono fun e W' ⟨he, hb⟩ => ⟨_, he, ?_⟩
 exact QF hW rfl rfl Tryz.underlying4 rfl rfl rfl R9 (by kernel_rfl) hb
set_option maxRecDepth 100000 in
theorem Rs (os : Os) (started : os.Started) (H : Type) (enc : TypeId × Value → H) :
  ReturnsInHanded {} Tryz.checked os 3 .any (Rows.rewriteReachSpec.pre6 enc Tryz.prog Tryz.f3 Rows.rewriteReachRow.domain false) (Rows.rewriteReachSpec.post enc Tryz.prog Tryz.f3 false true false false) := by
 refine returnsInHanded_of_change (C := Tryz.checked) own started (by kernel_rfl) Tryz.func3
  (ChangeSpec.witness6 (enc := enc) (C := Tryz.checked) false ⟨#[], #[.slice none 0 0, .agg #[.string ⟨#[]⟩, .slice none 0 0]], []⟩ 8 (by kernel_rfl) (by kernel_rfl) (by kernel_rfl) (by kernel_rfl)) ?_
 intro W base args ds gs before hval hW _ _
 exact Pf H enc W base args ds gs before hval hW
theorem proved : Rows.RewriteReachSaid :=
 OpenClaim.holds_of_wide 3 Tryz.f3 rfl rfl rfl rfl rfl rfl rfl ⟨rfl, rfl, rfl, rfl, rfl⟩ rfl rfl rfl rfl rfl (by kernel_rfl) Tryz.func3 (by kernel_rfl)
  (of_decide_eq_true (by kernel_rfl)) (by unfold Func.isWrapper; first | (rw [if_pos (by decide +kernel)]; kernel_rfl) | (rw [if_neg (by decide +kernel)]; exact ⟨rfl, rfl⟩))
  (fun os started H enc _ => Rs os started H enc)

end Go.Proofs.YtgcddcaachpbnaaGreat.rewriteReach
