/-
  Bindings sorted by the library: the closure that compares, and the row behind it.
  Conditions: none.
-/
import Derived.Test.YtpajlfdhmjgpnaaShelf
import Derived.Test.YtpajlfdhmjgpnaaBOnM
import Derived.Test.YtpajlfdhmjgpnaaPSort
namespace Go.Proofs.Ytpajlfdhmjgpnaa
open Go Go.RowKit Go.Lib Go.Sort Go.Shelf
set_option linter.unusedVariables false
set_option linter.unusedSimpArgs false
set_option maxHeartbeats 1000000

theorem run_gtr {P : Program} {w : World} (t : TypeId) (x y : ByteArray) : (binOp .gtr t (.string x) (.string y)).run P w = .ok (.bool (!(sLt x y || decide (x = y)))) w := by
  simp only [binOp, Op.stringOp, toList_eq_iff]
  rfl
attribute [go_sem] run_gtr
theorem isNaN_C (s : ByteArray) (W : World) : Calls Try.prog 89 #[.string s] W fun e w' => e = .returned (.bool false) ∧ w' = W := by
  go_enter Try.func89, Try.ntmps89
  go_wp2_with fail
  go_ret
  exact ⟨rfl, rfl⟩
theorem compare_C (a b : ByteArray) (W : World) : Calls Try.prog 81 #[.string a, .string b] W fun e w' => e = .returned (.int .i64 (cmpI a b)) ∧ w' = W := by
  have h1 := isNaN_C
  have hl : sLt a b = Op.bytesLess a.toList b.toList := rfl
  have hc : cmpI a b = if sLt a b = true then -1 else if a = b then 0 else 1 := rfl
  generalize cmpI a b = r at hc ⊢
  go_enter Try.func81, Try.ntmps81
  go_wp2_with (go_at_call 89; refine (h1 _ _).mono ?_; rintro e w' ⟨rfl, rfl⟩)
  all_goals go_ret
  all_goals refine ⟨?_, rfl⟩
  all_goals simp_all
/-- What 'Sort' hands the library: two bindings compared by their names; two boxes are laid. -/
abbrev SCell := ByteArray × ByteArray × Option Addr × Nat × Nat
def encSC (x : SCell) : List Value := [.string x.1, .string x.2.1, .slice x.2.2.1 x.2.2.2.1 x.2.2.2.2]
theorem sort1_C (x y : SCell) (W : World) : Calls Try.prog 80 #[.agg (encSC x).toArray, .agg (encSC y).toArray] W fun e w' => e = .returned (.int .i64 (cmpI x.1 y.1)) ∧ ∃ q os', w' = grow (W.drewN q) os' := by
  have hcon := fun W' => compare_C x.1 y.1 W'
  generalize cmpI x.1 y.1 = r at hcon ⊢
  unfold encSC
  go_enter Try.func80, Try.ntmps80
  go_wp2_with (go_at_call 81; refine (hcon _).mono ?_; rintro e w' ⟨rfl, rfl⟩)
  go_ret
  exact ⟨rfl, 0, _, by rw [alloc_eq_grow, alloc_eq_grow, grow_grow]; rfl⟩

/-! ### the row behind it -/
theorem swo_names : SWO (ltOf fun x y : SCell => cmpI x.1 y.1) where
  irrefl x := by
    simp only [ltOf, decide_eq_false_iff_not]
    intro h
    have := cmpI_neg.1 h
    rw [sLt_irrefl] at this
    cases this
  trans x y z h k := by
    simp only [ltOf, decide_eq_true_eq] at *
    exact cmpI_neg.2 (sLt_trans (cmpI_neg.1 h) (cmpI_neg.1 k))
  ntrans x y z h k := by
    simp only [ltOf, decide_eq_false_iff_not] at *
    intro e
    have e := cmpI_neg.1 e
    have h : sLt x.1 y.1 = false := by
      cases hx : sLt x.1 y.1 with
      | false => rfl
      | true => exact absurd (cmpI_neg.2 hx) h
    have k : sLt y.1 z.1 = false := by
      cases hx : sLt y.1 z.1 with
      | false => rfl
      | true => exact absurd (cmpI_neg.2 hx) k
    rcases sLt_total y.1 z.1 with q | q | q
    · rw [q] at k; cases k
    · rw [q] at h; rw [e] at h; cases h
    · have := sLt_trans e q
      rw [this] at h
      cases h
/-- These cells are a binding's. -/
def CellIs (σ : Sto) (x : SCell) (b : Bd) : Prop := x.1 = b.1 ∧ All2 (SRep σ) (encSC x) (encB b)
theorem all2_perm {α β : Type} {R : α → β → Prop} {l1 l2 : List α} (hp : l1.Perm l2) : ∀ {m1 : List β}, All2 R l1 m1 → ∃ m2, All2 R l2 m2 ∧ m1.Perm m2 := by
  induction hp with
  | nil => intro m1 h; exact ⟨m1, h, List.Perm.refl _⟩
  | cons x _ ih =>
    intro m1 h
    cases h with
    | cons h1 h2 =>
      obtain ⟨m2, q1, q2⟩ := ih h2
      exact ⟨_ :: m2, .cons h1 q1, q2.cons _⟩
  | swap x y l =>
    intro m1 h
    cases h with
    | cons h1 h2 =>
      cases h2 with
      | cons h2 h3 => exact ⟨_, .cons h2 (.cons h1 h3), List.Perm.swap _ _ _⟩
  | trans _ _ ih1 ih2 =>
    intro m1 h
    obtain ⟨m2, q1, q2⟩ := ih1 h
    obtain ⟨m3, q3, q4⟩ := ih2 q1
    exact ⟨m3, q3, q2.trans q4⟩
theorem cell_is {σ : Sto} {b : Bd} {v1 v2 v3 : Value} (h1 : SRep σ v1 (.str b.1)) (h2 : SRep σ v2 (.str b.2.name)) (h3 : SRep σ v3 (.list (b.2.args.map encT))) : ∃ x : SCell, [v1, v2, v3] = encSC x ∧ CellIs σ x b := by
  have e1 := (vrep_str (S := noS) (ι := noH) (.one (.st h1))).1
  have e2 := (vrep_str (S := noS) (ι := noH) (.one (.st h2))).1
  obtain ⟨p, cap, e3, _⟩ := srep_slice h3
  subst e1 e2 e3
  exact ⟨(b.1, b.2.name, p, _, cap), rfl, rfl, .cons h1 (.cons h2 (.cons h3 .nil))⟩
theorem sort_cells {σ : Sto} {vs : Array Value} : ∀ (l : List Bd) (base : Nat), (∀ k b, l[k]? = some b → ∀ j a, (encB b)[j]? = some a → ∃ v, vs[base + k * 3 + j]? = some v ∧ SRep σ v a) →
    ∃ d : List SCell, All2 (CellIs σ) d l ∧ ∀ k x j v, d[k]? = some x → (encSC x)[j]? = some v → vs[base + k * 3 + j]? = some v
  | [], base, _ => ⟨[], .nil, by simp⟩
  | b :: l, base, h => by
    obtain ⟨d, d1, d2⟩ := sort_cells l (base + 3) (fun k c hc j a ha => by
      obtain ⟨v, v1, v2⟩ := h (k + 1) c (by simpa using hc) j a ha
      exact ⟨v, by rw [← v1]; congr 1; omega, v2⟩)
    obtain ⟨u1, p1, q1⟩ := h 0 b rfl 0 _ rfl
    obtain ⟨u2, p2, q2⟩ := h 0 b rfl 1 _ rfl
    obtain ⟨u3, p3, q3⟩ := h 0 b rfl 2 _ rfl
    obtain ⟨x, x1, x2⟩ := cell_is q1 q2 q3
    refine ⟨x :: d, .cons x2 d1, fun k y j v hy hv => ?_⟩
    cases k with
    | zero =>
      simp only [List.getElem?_cons_zero, Option.some.injEq] at hy
      subst hy
      rw [← x1] at hv
      match j, hv with
      | 0, hv => cases hv; exact p1
      | 1, hv => cases hv; exact p2
      | 2, hv => cases hv; exact p3
      | j + 3, hv => simp at hv
    | succ k =>
      have := d2 k y j v (by simpa using hy) hv
      rw [← this]
      congr 1
      omega
theorem encSC_len (x : SCell) : (encSC x).length = 3 := rfl
theorem flat_get {d : Array SCell} {t : Nat} (h : t < d.size * 3) : ∃ x v, d[t / 3]? = some x ∧ (encSC x)[t % 3]? = some v ∧ (flatK encSC 3 d)[t]! = v := by
  have hk : t / 3 < d.size := by omega
  have hj : t % 3 < (encSC d[t / 3]).length := by rw [encSC_len]; omega
  refine ⟨d[t / 3], (encSC d[t / 3])[t % 3], Array.getElem?_eq_getElem hk, List.getElem?_eq_getElem hj, ?_⟩
  rw [get_flatK _ _ _ _ h, getElem!_pos d (t / 3) hk, getElem!_pos (encSC d[t / 3]) (t % 3) hj]
theorem sort_heap (w : World) (g n : Nat) (d : Array SCell) (os : Array Obj) (vs : Array Value) (e : TypeId) (hg : w.heap[g]? = some (.cells vs e (0, 0))) :
    (sortWorldK encSC 3 w g 0 n d os).heap[g]? = some (.cells (putCells id 0 (flatK encSC 3 d) vs) e (0, 0)) ∧ (∀ k, k < w.heap.size → k ≠ g → (sortWorldK encSC 3 w g 0 n d os).heap[k]? = w.heap[k]?) ∧ w.heap.size ≤ (sortWorldK encSC 3 w g 0 n d os).heap.size := by
  have hlt := (Array.getElem?_eq_some_iff.1 hg).1
  have hsz : (putRowK encSC 3 (Sort.ahead w n) g 0 d).heap.size = w.heap.size := by simp [putRowK, putRow, mapBlock, Sort.ahead]
  refine ⟨?_, fun k hk hne => ?_, ?_⟩
  · unfold sortWorldK
    rw [heap_grow_old _ _ (by rw [hsz]; exact hlt)]
    simp [putRowK, putRow, mapBlock, Sort.ahead, Array.getElem?_modify, hg, onCells]
  · unfold sortWorldK
    rw [heap_grow_old _ _ (by rw [hsz]; exact hk)]
    simp [putRowK, putRow, mapBlock, Sort.ahead, Array.getElem?_modify, Ne.symm hne]
  · unfold sortWorldK
    rw [size_grow, hsz]
    omega
theorem put_get {d : Array SCell} {vs : Array Value} (hs : d.size * 3 ≤ vs.size) {k : Nat} {x : SCell} {j : Nat} {v : Value} (hx : d[k]? = some x) (hv : (encSC x)[j]? = some v) : (putCells id 0 (flatK encSC 3 d) vs)[k * 3 + j]? = some v := by
  have hk := (Array.getElem?_eq_some_iff.1 hx).1
  have hj : j < 3 := by have := (List.getElem?_eq_some_iff.1 hv).1; rw [encSC_len] at this; exact this
  have hlt : k * 3 + j < d.size * 3 := by omega
  obtain ⟨y, u, h1, h2, h3⟩ := flat_get hlt
  have e1 : (k * 3 + j) / 3 = k := by omega
  have e2 : (k * 3 + j) % 3 = j := by omega
  rw [e1, hx] at h1
  cases h1
  rw [e2, hv] at h2
  cases h2
  unfold putCells
  rw [Array.getElem?_mapIdx, Array.getElem?_eq_getElem (by omega), Option.map_some, if_pos (by rw [size_flatK]; omega)]
  simp only [Nat.sub_zero, id, h3]
theorem put_size (d : Array SCell) (vs : Array Value) : (putCells id 0 (flatK encSC 3 d) vs).size = vs.size := by simp [putCells]
theorem updE_eq {S : AStore} {r : Nat} {b : ABlk} (h : S r = some b) : updE S r (some b) = S := by
  funext k
  unfold updE
  split
  · rename_i e; rw [e, h]
  · rfl
theorem put_other {d : Array SCell} {vs : Array Value} {t : Nat} (h : d.size * 3 ≤ t) : (putCells id 0 (flatK encSC 3 d) vs)[t]? = vs[t]? := by
  unfold putCells
  rw [Array.getElem?_mapIdx]
  cases hv : vs[t]? with
  | none => rfl
  | some v => rw [Option.map_some, if_neg (by rw [size_flatK]; omega)]
/-- A row of bindings that is written, and what stands behind them. -/
abbrev rowBy (l : List Bd) (ys : List (List SV)) : ABlk := .mrow 63 3 (l.map encB ++ ys)
/-- slices.SortFunc at the first things of a row of bindings that is written: sorted by names, no two of which are alike. -/
theorem sort_core (l : List Bd) (ys : List (List SV)) (hys : ∀ y ∈ ys, y.length = 3) (hn : Named l) (hl : l.length ≤ 100000) (r : Nat) (hr : 1000 ≤ r) (S : AStore) (sr : S r = some (rowBy l ys)) (hS : Clean S) (σ : Sto) (w : World) (ι : AHnd) (hF : Fit σ w) (hO : Owned σ S ι w) :
    Calls Try.prog 79 #[.slice (ι r).p l.length (ι r).cap, .func (.func 80) #[] #[]] w fun e w' => ∃ v σ' ι', e = .returned v ∧ Clean (updE S r (some (rowBy (sortB l) ys))) ∧ Upd S ι (updE S r (some (rowBy (sortB l) ys))) ι' ∧ Owned σ' (updE S r (some (rowBy (sortB l) ys))) ι' w' ∧ VRep σ' (updE S r (some (rowBy (sortB l) ys))) ι' v (.tup []) ∧ Fit σ' w' ∧ (∀ p x, σ p = some x → σ' p = some x) ∧
      (∀ p : Addr, p.block < w.heap.size → notOf S ι p.block → σ' p = σ p) ∧ (w'.os = w.os ∧ w'.tape = w.tape ∧ w'.output = w.output) ∧ w.heap.size ≤ w'.heap.size ∧
      (∀ g, g < w.heap.size → notOf S ι g → w'.heap[g]? = w.heap[g]?) ∧ (∀ id b g, updE S r (some (rowBy (sortB l) ys)) id = some b → (ι' id).g = some g → w.heap.size ≤ g ∨ ¬ notOf S ι g) := by
  have hS' : Clean (updE S r (some (rowBy (sortB l) ys))) := clean_upd hS hr rfl
  have hb : BRep σ S ι w (ι r) (.mrow 63 3 (l.map encB ++ ys)) := hO.1 r _ sr
  generalize hxs : l.map encB ++ ys = xs at hb
  have hlen : xs.length = l.length + ys.length := by rw [← hxs, List.length_append, List.length_map]
  generalize hh : ι r = hd at hb
  cases hb with
  | mnil k1 k2 =>
    obtain ⟨hl0, hy0⟩ : l = [] ∧ ys = [] := by simpa using hxs
    subst hl0 hy0
    refine (AnyF.slices_SortFunc_none Try.sortBd hd.p hd.cap _ w).mono fun e w' ⟨he, hw⟩ => ?_
    subst hw
    have hid : updE S r (some (rowBy (sortB []) [])) = S := updE_eq sr
    rw [hid]
    exact ⟨_, σ, ι, he, hS, Upd.refl _ _, hO, .tup (fun _ => undef) rfl (by simp) (by simp), hF, fun _ _ h => h, fun _ _ _ => rfl, ⟨rfl, rfl, rfl⟩, Nat.le_refl _, fun _ _ _ => rfl, fun id b g h1 h2 => .inr fun hno => hno id b h1 h2⟩
  | @mrow _ _ _ g cs k1 k2 k3 k4 k5 k6 k7 k8 k9 =>
    subst hxs
    obtain ⟨d, d1, d2⟩ := sort_cells (σ := σ) (vs := cs) l 0 (fun k b hb j a ha => by
      obtain ⟨v, v1, v2⟩ := k8 k (encB b) j a (by rw [List.getElem?_append_left (by rw [List.length_map]; exact lt_of_get hb), List.getElem?_map, hb]; rfl) ha
      exact ⟨v, by rw [Nat.zero_add]; exact v1, v2⟩)
    have dlen : d.length = l.length := d1.len
    have hcap : l.length ≤ hd.cap := by omega
    have hfits : d.toArray.size * 3 ≤ cs.size := by
      rw [k6]
      simp only [List.size_toArray, dlen]
      exact Nat.mul_le_mul_right 3 hcap
    have hH : HoldsK encSC 3 w g 0 d.toArray := fun j hj => by
      rw [size_flatK] at hj
      obtain ⟨x, v, q1, q2, q3⟩ := flat_get hj
      have q1 : d[j / 3]? = some x := by simpa using q1
      have hc := d2 _ _ _ _ q1 q2
      have e : 0 + j / 3 * 3 + j % 3 = j := by omega
      rw [e] at hc
      refine ⟨?_, ?_⟩
      · rw [cell_of_row w g _ _ _ _ k3, Nat.zero_add, hc, q3]
        rfl
      · exact Blk.frozen k3 _
    have eg : ∀ args w, (callFunc 80 args).run Try.prog w = .ok (.enter 80 args) w := enters_of Try.func80 (by kernel_rfl) rfl
    have hgl : g < w.heap.size := (Array.getElem?_eq_some_iff.1 k3).1
    have hcon := AnyQ.slices_SortFunc Try.sortBd 3 Try.isAgg63 Try.sizeOf63 encSC encSC_len (fun x v hv => by simp [encSC] at hv; rcases hv with rfl | rfl | rfl <;> rfl) (fun x y : SCell => cmpI x.1 y.1) swo_names 80 #[] g 0 hd.cap d.toArray w eg (fun _ _ _ _ x y => sort1_C x y _) hH hgl (by simp [dlen]; omega)
    rw [show d.toArray.size = l.length by simp [dlen]] at hcon
    rw [k2, show (l.length) = l.length from rfl]
    refine Calls.mono hcon fun e w' ⟨he, d', n, os, hp, hs, hw⟩ => ?_
    obtain ⟨hp1, hp2, hp3⟩ := hp
    have hd'l : d'.size = l.length := by rw [hp1]; simp [dlen]
    have hperm : d.Perm d'.toList := by
      have e1 : d'.extract 0 l.length = d' := by rw [← hd'l]; exact Array.extract_size
      have e2 : d.toArray.extract 0 l.length = d.toArray := by
        rw [show l.length = d.toArray.size by simp [dlen]]
        exact Array.extract_size
      rw [e1, e2] at hp3
      exact hp3.symm
    obtain ⟨l', l1, l2⟩ := all2_perm hperm d1
    have hl'len : l'.length = l.length := l2.length_eq.symm
    have hord : Ordered l' := by
      unfold Ordered
      rw [List.pairwise_iff_getElem]
      intro i j hi hj hij
      obtain ⟨x, x1, x2, _⟩ := l1.get (List.getElem?_eq_getElem hi)
      obtain ⟨y, y1, y2, _⟩ := l1.get (List.getElem?_eq_getElem hj)
      have hso := hs i j (Nat.zero_le _) hij (by omega)
      have e1 : d'[i]! = x := by
        rw [Array.getElem?_toList] at x1
        rw [getElem!_def, x1]
      have e2 : d'[j]! = y := by
        rw [Array.getElem?_toList] at y1
        rw [getElem!_def, y1]
      rw [e1, e2] at hso
      simp only [ltOf, decide_eq_false_iff_not] at hso
      have hno : sLt l'[j].1 l'[i].1 = false := by
        cases hx : sLt l'[j].1 l'[i].1 with
        | false => rfl
        | true => exact absurd (cmpI_neg.2 (by rw [x2, y2]; exact hx)) hso
      have hdiff : l'[i].1 ≠ l'[j].1 := by
        have hn' := named_perm l2 hn
        unfold Named at hn'
        rw [List.nodup_iff_pairwise_ne, List.pairwise_map, List.pairwise_iff_getElem] at hn'
        exact hn' i j hi hj hij
      rcases sLt_total l'[i].1 l'[j].1 with q | q | q
      · exact q
      · exact absurd q hdiff
      · rw [q] at hno; cases hno
    have hl' : l' = sortB l := ordered_unique hord (sortB_ordered hn) ((l2.symm).trans (sortB_perm l).symm)
    subst hl'
    obtain ⟨w1, w2, w3⟩ := sort_heap w g n d' os cs _ k3
    rw [← hw] at w1 w2 w3
    have hfits' : d'.size * 3 ≤ cs.size := by rw [hd'l]; rw [← dlen]; simpa using hfits
    have hupd : Upd S ι (updE S r (some (rowBy (sortB l) ys))) ι := fun id b hb => by
      by_cases e : id = r
      · subst e
        rw [sr] at hb
        cases hb
        exact ⟨_, updE_same _ _ _, by simp [ABlk.len, sortB_length], fun _ => ⟨rfl, rfl⟩⟩
      · exact ⟨b, by rw [updE_ne _ e]; exact hb, Nat.le_refl _, fun _ => ⟨rfl, rfl⟩⟩
    have hotherg : ∀ id b g', id ≠ r → S id = some b → (ι id).g = some g' → g' ≠ g := fun id b g' hne hb hg' e => by
      subst e
      exact hne (hO.2 id r b _ g' hb sr hg' (by rw [hh]; exact k1))
    have hFit : Fit σ w' := fun p x hp => by
      have hlt := hF.lt hp
      by_cases e : p.block = g
      · rw [k9 p e] at hp; cases hp
      · exact (look_of_block (w2 _ hlt e)).trans (hF p x hp)
    refine ⟨_, σ, ι, he, hS', hupd, ⟨fun id b hb => ?_, fun id id' b b' g' q1 q2 q3 q4 => ?_⟩, .tup (fun _ => undef) rfl (by simp) (by simp), hFit, fun _ _ h => h, fun _ _ _ => rfl, ?_, w3, fun g' q1 q2 => ?_, fun id b g' q1 q2 => ?_⟩
    · by_cases e : id = r
      · subst e
        rw [updE_same] at hb
        cases hb
        rw [hh]
        have hlen' : ((sortB l).map encB ++ ys).length = l.length + ys.length := by rw [List.length_append, List.length_map, sortB_length]
        refine .mrow k1 k2 w1 (by rw [hlen', ← hlen]; exact k4) k5 (by rw [put_size]; exact k6) (fun x hx => ?_) (fun k x j a hx ha => ?_) k9
        · rcases List.mem_append.1 hx with hx | hx
          · exact lens_encB x hx
          · exact hys x hx
        rcases Nat.lt_or_ge k l.length with hk | hk
        · rw [List.getElem?_append_left (by rw [List.length_map, sortB_length]; exact hk), List.getElem?_map, Option.map_eq_some_iff] at hx
          obtain ⟨b, hb, rfl⟩ := hx
          obtain ⟨y, y1, y2, y3⟩ := l1.get hb
          obtain ⟨v, v1, v2⟩ := y3.get ha
          exact ⟨v, put_get hfits' (by simpa using y1) v1, v2⟩
        · rw [List.getElem?_append_right (by rw [List.length_map, sortB_length]; exact hk), List.length_map, sortB_length] at hx
          obtain ⟨v, v1, v2⟩ := k8 k x j a (by rw [List.getElem?_append_right (by rw [List.length_map]; exact hk), List.length_map]; exact hx) ha
          exact ⟨v, by rw [put_other (by rw [hd'l]; omega)]; exact v1, v2⟩
      · rw [updE_ne _ e] at hb
        refine (hO.1 id b hb).mono (fun _ _ h => h) hupd (fun g' hg' => w2 g' ((hO.1 id b hb).gsome hg') (hotherg id b g' e hb hg')) (fun _ _ _ _ => rfl)
    · have back : ∀ i c, updE S r (some (rowBy (sortB l) ys)) i = some c → ∃ c', S i = some c' := fun i c hc => by
        by_cases e : i = r
        · subst e; exact ⟨_, sr⟩
        · rw [updE_ne _ e] at hc; exact ⟨c, hc⟩
      obtain ⟨c1, c1'⟩ := back _ _ q1
      obtain ⟨c2, c2'⟩ := back _ _ q2
      exact hO.2 _ _ _ _ _ c1' c2' q3 q4
    · rw [hw]
      exact ⟨rfl, rfl, rfl⟩
    · exact w2 g' q1 fun e => q2 r _ sr (by rw [hh, e]; exact k1)
    · refine .inr fun hno => ?_
      by_cases e : id = r
      · subst e; exact hno id _ sr q2
      · rw [updE_ne _ e] at q1; exact hno id _ q1 q2
/-- The library's sort of a whole row. -/
theorem sortFunc_M (l : List Bd) (hn : Named l) (hl : l.length ≤ 100000) (r : Nat) (hr : 1000 ≤ r) (S : AStore) (sr : S r = some (rowBd l)) :
    ACallsS Try.prog 79 [.one (.row r l.length), .one (.fn 80 [])] S (.tup []) (updE S r (some (rowBd (sortB l)))) := by
  intro hS σ w vs ι hG hF hO hv
  cases hv with
  | @cons v1 _ _ _ h1 hv =>
  cases hv with
  | @cons v2 _ _ _ h2 hv =>
  cases hv
  obtain ⟨b, b1, b2, b3⟩ := arep_row (vrep_one h1)
  rw [sr] at b1
  cases b1
  have hv1 := b3 (by simp [ABlk.len])
  subst hv1
  have hv2 : v2 = .func (.func 80) #[] #[] := by
    cases vrep_one h2 with
    | @fn _ vs _ c q1 q2 q3 =>
      have e : vs = #[] := Array.eq_empty_of_size_eq_zero (by simpa using q1)
      rw [e]
  subst hv2
  have e : ∀ m : List Bd, rowBd m = rowBy m [] := fun m => by rw [rowBy, List.append_nil]
  rw [e] at sr ⊢
  exact sort_core l [] (by simp) hn hl r hr S sr hS σ w ι hF hO
/-- .. and of the first things of one. -/
theorem sortFunc_P (l : List Bd) (ys : List (List SV)) (hys : ∀ y ∈ ys, y.length = 3) (hn : Named l) (hl : l.length ≤ 100000) (r n : Nat) (hr : 1000 ≤ r) (S : AStore) (sr : S r = some (rowBy l ys)) (hnn : n = l.length + ys.length) :
    ACallsS Try.prog 79 [.one (.part r l.length n), .one (.fn 80 [])] S (.tup []) (updE S r (some (rowBy (sortB l) ys))) := by
  intro hS σ w vs ι hG hF hO hv
  cases hv with
  | @cons v1 _ _ _ h1 hv =>
  cases hv with
  | @cons v2 _ _ _ h2 hv =>
  cases hv
  obtain ⟨b, b1, b2, b3⟩ := arep_part (vrep_one h1)
  rw [sr] at b1
  cases b1
  have hv1 := (b3 (by simp [ABlk.len, hnn])).2
  subst hv1
  have hv2 : v2 = .func (.func 80) #[] #[] := by
    cases vrep_one h2 with
    | @fn _ vs _ c q1 q2 q3 =>
      have e : vs = #[] := Array.eq_empty_of_size_eq_zero (by simpa using q1)
      rw [e]
  subst hv2
  exact sort_core l ys hys hn hl r hr S sr hS σ w ι hF hO
theorem sort_M (l : List Bd) (hn : Named l) (hl : l.length ≤ 100000) (r : Nat) (hr : 1000 ≤ r) (S : AStore) (sr : S r = some (rowBd l)) :
    ACallsS Try.prog 66 [.one (.row r l.length)] S (.one (.row r l.length)) (updE S r (some (rowBd (sortB l)))) := by
  refine acS_subst_SortM (Nat.le_of_ble_eq_true rfl) fun hS C hC => ?_
  unfold ir_subst_SortM
  repeat' (first | (with_reducible first | refine Wa ?_ | refine Wb ?_ | refine Wc ?_ | refine Wd ?_ | refine We ?_ | refine Wf ?_ | refine Wg ?_ | refine Wh ?_ | refine Wi ?_ | refine Wj ?_ | refine Wk (by decide) ?_ | refine Wl ?_ | refine Wm ?_ | refine Wn ?_) | ((with_reducible first | refine Wo (fun K hK => ?_) | refine Wq ?_ | refine Wr ?_); (try simp only [go_sem, List.forall_mem_nil, ↓guard_ite, ↓pick_ite, seval, encT_eq, inR_i64]); (repeat with_reducible refine And.intro (by first | omega | (with_reducible first | exact lens_encT | exact lens_encL | exact lens_encB | exact lens_encP) | (simp; done) | (simp only [List.length_take, List.length_map, List.length_append, maxLen_eq]; omega)) ?_); (try (with_reducible refine hK _ ?_; clear hK K))))
  refine ⟨_, _, sortFunc_M l hn hl (up1 r) (up1_le r) (upS S) (by rw [upS_up, sr]; rfl), ?_⟩
  repeat' (first | (with_reducible first | refine Wa ?_ | refine Wb ?_ | refine Wc ?_ | refine Wd ?_ | refine We ?_ | refine Wf ?_ | refine Wg ?_ | refine Wh ?_ | refine Wi ?_ | refine Wj ?_ | refine Wk (by decide) ?_ | refine Wl ?_ | refine Wm ?_ | refine Wn ?_) | ((with_reducible first | refine Wo (fun K hK => ?_) | refine Wq ?_ | refine Wr ?_); (try simp only [go_sem, List.forall_mem_nil, ↓guard_ite, ↓pick_ite, seval, encT_eq, inR_i64]); (repeat with_reducible refine And.intro (by first | omega | (with_reducible first | exact lens_encT | exact lens_encL | exact lens_encB | exact lens_encP) | (simp; done) | (simp only [List.length_take, List.length_map, List.length_append, maxLen_eq]; omega)) ?_); (try (with_reducible refine hK _ ?_; clear hK K))))
  have hc := clean_upd (b := rowBd (sortB l)) hS hr rfl
  refine finS_high trivial ?_ (high_row (n := l.length) hr) (fun i b _ h => (hc i b h).2) (lowS_clean hc) hc
  simp only [go_sem, List.forall_mem_nil, ↓guard_ite, ↓pick_ite, seval, encT_eq, inR_i64, resAll, resOne, tupV]
theorem sort_P (l : List Bd) (ys : List (List SV)) (hys : ∀ y ∈ ys, y.length = 3) (hn : Named l) (hl : l.length ≤ 100000) (r n : Nat) (hr : 1000 ≤ r) (S : AStore) (sr : S r = some (rowBy l ys)) (hnn : n = l.length + ys.length) :
    ACallsS Try.prog 66 [.one (.part r l.length n)] S (.one (.part r l.length n)) (updE S r (some (rowBy (sortB l) ys))) := by
  refine acS_subst_SortM (Nat.le_of_ble_eq_true rfl) fun hS C hC => ?_
  unfold ir_subst_SortM
  repeat' (first | (with_reducible first | refine Wa ?_ | refine Wb ?_ | refine Wc ?_ | refine Wd ?_ | refine We ?_ | refine Wf ?_ | refine Wg ?_ | refine Wh ?_ | refine Wi ?_ | refine Wj ?_ | refine Wk (by decide) ?_ | refine Wl ?_ | refine Wm ?_ | refine Wn ?_) | ((with_reducible first | refine Wo (fun K hK => ?_) | refine Wq ?_ | refine Wr ?_); (try simp only [go_sem, List.forall_mem_nil, ↓guard_ite, ↓pick_ite, seval, encT_eq, inR_i64]); (repeat with_reducible refine And.intro (by first | omega | (with_reducible first | exact lens_encT | exact lens_encL | exact lens_encB | exact lens_encP) | (simp; done) | (simp only [List.length_take, List.length_map, List.length_append, maxLen_eq]; omega)) ?_); (try (with_reducible refine hK _ ?_; clear hK K))))
  refine ⟨_, _, sortFunc_P l ys hys hn hl (up1 r) n (up1_le r) (upS S) (by rw [upS_up, sr]; rfl) hnn, ?_⟩
  repeat' (first | (with_reducible first | refine Wa ?_ | refine Wb ?_ | refine Wc ?_ | refine Wd ?_ | refine We ?_ | refine Wf ?_ | refine Wg ?_ | refine Wh ?_ | refine Wi ?_ | refine Wj ?_ | refine Wk (by decide) ?_ | refine Wl ?_ | refine Wm ?_ | refine Wn ?_) | ((with_reducible first | refine Wo (fun K hK => ?_) | refine Wq ?_ | refine Wr ?_); (try simp only [go_sem, List.forall_mem_nil, ↓guard_ite, ↓pick_ite, seval, encT_eq, inR_i64]); (repeat with_reducible refine And.intro (by first | omega | (with_reducible first | exact lens_encT | exact lens_encL | exact lens_encB | exact lens_encP) | (simp; done) | (simp only [List.length_take, List.length_map, List.length_append, maxLen_eq]; omega)) ?_); (try (with_reducible refine hK _ ?_; clear hK K))))
  have hc := clean_upd (b := rowBy (sortB l) ys) hS hr rfl
  refine finS_high trivial ?_ (high_part (k := l.length) (n := n) hr) (fun i b _ h => (hc i b h).2) (lowS_clean hc) hc
  simp only [go_sem, List.forall_mem_nil, ↓guard_ite, ↓pick_ite, seval, encT_eq, inR_i64, resAll, resOne, tupV]
end Go.Proofs.Ytpajlfdhmjgpnaa
