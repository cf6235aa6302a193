/-
  Code: regions, branches, blocks, loops; entering a function; what a walk over abstract states proves.
  Conditions: none.
-/
import Derived.Test.YtpajlfdhmjgpnaaAbsK
import Derived.Orders
namespace Go.Proofs.Ytpajlfdhmjgpnaa
open Go Go.RowKit
set_option linter.unusedVariables false
set_option maxHeartbeats 400000

section
variable {P : Program} {C : Ctx} {a : Act} {w : World} {σ : Sto} {ι : AHnd} {s : AS} {Q : Exit → Act → World → Prop}

theorem rep_bool_val {v : Value} {b : Bool} (h : VRep σ s.S ι v (.one (.st (.bool b)))) : v = .bool b := vrep_bool h
theorem rep_tup0 {v : Value} (h : VRep σ s.S ι v (.tup [])) : v = .tuple #[] := by
  cases h with
  | @tup vs _ c h1 =>
    have e : vs = #[] := Array.eq_empty_of_size_eq_zero (by simpa using h1)
    rw [e]
/-- One operation of a region. -/
theorem ins_sound {mu : List Nat} {ops : Array Oper} {i : Nat} {o : Oper} {k k' : Ins} (hi : ops[i]? = some o) (htr : trIns P C.n mu ops.toList o = some k) (hk' : k'.dst = k.dst ∧ k'.guard = k.guard ∧ k'.kd = k.kd) {K : AS → Prop} {next : Act → World → Prop} (R : Refs C σ ι s a w) (h : k'.go P s K) (hn : ∀ s' a' w', K s' → Holds C s' a' w' → next a' w') :
    wpOp P ops Q i next a w := by
  unfold trIns at htr
  split at htr
  · rename_i g kd e1 e2
    cases htr
    obtain ⟨dst', g', kd', tag'⟩ := k'
    obtain ⟨hk1, hk2, hk3⟩ := hk'
    dsimp only at hk1 hk2 hk3
    subst hk1 hk2 hk3
    unfold wpOp
    rw [hi]
    dsimp only
    have body : ∀ {K' : AV → AS → Prop}, kd'.goT P (o.dst.getD 0) s tag' K' → (∀ av s', K' av s' → K (s'.put o.dst av)) → o.wp P a w next Q := fun hk hK' => kd_sound e2 R (goT_go hk) fun av s' a' w' hav hH => hn _ _ _ (hK' _ _ hav) hH
    unfold Ins.go at h
    dsimp only at h
    cases hg : o.guard with
    | none =>
      rw [hg] at e1
      simp only [trGuard, Option.some.injEq] at e1
      subst e1
      rw [if_pos (by simp [Region.wanted, hg])]
      exact .inl (body h fun _ _ hk => hk)
    | some jw =>
      obtain ⟨j, want⟩ := jw
      rw [hg] at e1
      simp only [trGuard] at e1
      split at e1
      · rename_i oj hoj
        split at e1
        · rename_i t ht
          split at e1
          · rename_i hlt
            cases e1
            dsimp only at h
            have hoj' : ops[j]? = some oj := by simpa using hoj
            have rt := R.env t hlt
            have hsz : t < a.tmps.size := Nat.lt_of_lt_of_le hlt R.size
            have hy : ∀ b, a.tmps.getD t undef = .bool b → yielded ops a.tmps j = some b := fun b hb => by
              unfold yielded
              rw [hoj']
              simp only [Option.bind_some, ht]
              rw [Array.getD_eq_getD_getElem?, Array.getElem?_eq_getElem hsz] at hb
              rw [Array.getElem?_eq_getElem hsz]
              simp only [Option.getD_some] at hb
              rw [hb]
            split at h
            · rename_i b e3
              rw [e3] at rt
              have hb := hy b (vrep_bool rt)
              by_cases hw : b = want
              · rw [if_pos (by simp [Region.wanted, hg, hb, hw])]
                exact .inl (body (h.1 hw) fun _ _ hk => hk)
              · rw [if_neg (by simp [Region.wanted, hg, hb, hw])]
                exact hn _ _ _ (h.2 hw) ⟨σ, ι, R.put (.tup (fun _ => undef) rfl (by simp) (by simp))⟩
            · rename_i e3
              rw [e3] at rt
              have hv := rep_tup0 rt
              have hb : yielded ops a.tmps j = none := by
                unfold yielded
                rw [hoj']
                simp only [Option.bind_some, ht]
                rw [Array.getD_eq_getD_getElem?, Array.getElem?_eq_getElem hsz] at hv
                rw [Array.getElem?_eq_getElem hsz]
                simp only [Option.getD_some] at hv
                rw [hv]
              rw [if_neg (by simp [Region.wanted, hg, hb])]
              exact hn _ _ _ h ⟨σ, ι, R.put (.tup (fun _ => undef) rfl (by simp) (by simp))⟩
            · exact h.elim
          · cases e1
        · cases e1
      · cases e1
  · cases htr

theorem trAll_get {n : Nat} {mu : List Nat} {ops : List Oper} : ∀ {l : List Oper} {ks : List Ins}, trAll P n mu ops l = some ks → l.length = ks.length ∧ ∀ (i : Nat) (o : Oper), l[i]? = some o → ∃ k, ks[i]? = some k ∧ trIns P n mu ops o = some k
  | [], ks, h => by
    simp only [trAll, Option.some.injEq] at h
    subst h
    simp
  | o :: os, ks, h => by
    simp only [trAll] at h
    split at h
    · rename_i k ks' e1 e2
      cases h
      obtain ⟨h1, h2⟩ := trAll_get e2
      refine ⟨by simp [h1], fun i o' ho' => ?_⟩
      cases i with
      | zero =>
        simp at ho'
        subst ho'
        exact ⟨k, rfl, e1⟩
      | succ i => simpa using h2 i o' (by simpa using ho')
    · cases h

theorem filterMap_range {α : Type} : ∀ l : List α, (List.range l.length).filterMap (fun i => l[i]?) = l
  | [] => rfl
  | x :: l => by
    rw [List.length_cons, List.range_succ_eq_map, List.filterMap_cons, List.filterMap_map]
    simp only [List.getElem?_cons_zero]
    congr 1
    have := filterMap_range l
    exact this
/-- A region that keeps the text's order. -/
theorem region_text {mu : List Nat} {ops : Array Oper} {ks : List Ins} {id : Nat} (htr : trAll P C.n mu ops.toList ops.toList = some ks) {K : AS → Prop} (R : Refs C σ ι s a w) (h : Run P ks s K) (hn : ∀ s' a' w', K s' → Holds C s' a' w' → Q .normal a' w') :
    (Code.region id ops false).wp P Q a w := by
  obtain ⟨hl, hget⟩ := trAll_get htr
  refine wp_region ?_
  have key : ∀ (m k : Nat) (s : AS) (a : Act) (w : World), k + m = ops.size → Holds C s a w → Run P (ks.drop k) s K → wpOps P ops Q (List.range' k m) a w := by
    intro m
    induction m with
    | zero =>
      intro k s a w hk hH hr
      have : ks.drop k = [] := List.drop_of_length_le (by simp at hl; omega)
      rw [this] at hr
      exact hn _ _ _ hr hH
    | succ m ih =>
      intro k s a w hk hH hr
      have hlt : k < ops.toList.length := by simp; omega
      obtain ⟨kk, h1, h2⟩ := hget k _ (List.getElem?_eq_getElem hlt)
      have hd : ks.drop k = kk :: ks.drop (k + 1) := by
        have hk' := (List.getElem?_eq_some_iff.1 h1).1
        rw [List.drop_eq_getElem_cons hk']
        congr 1
        exact (List.getElem?_eq_some_iff.1 h1).2
      rw [hd, run_cons] at hr
      obtain ⟨σ, ι, R⟩ := hH
      rw [List.range'_succ, wpOps_cons]
      exact ins_sound (i := k) (by rw [← Array.getElem?_toList]; exact List.getElem?_eq_getElem hlt) h2 ⟨rfl, rfl, rfl⟩ R hr fun s' a' w' hK hH' => ih (k + 1) s' a' w' (by omega) hH' hK
  rw [List.range_eq_range']
  exact key ops.size 0 s a w (by omega) ⟨σ, ι, R⟩ (by simpa using h)

/-! ### any order -/
/-- Does operation i come behind operation j? -/
def behind (ops : List Oper) : Nat → Nat → Nat → Bool
  | 0, _, _ => false
  | f + 1, j, i => match ops[i]? with
    | some o => o.after.any fun e => Region.binds .any e && (e.on == j || behind ops f j e.on)
    | none => false
def orderOk (ops : List Oper) (ks : List Ins) : Bool :=
  (List.range ops.length).all fun i =>
    (match ops[i]? with | some o => o.after.all (fun e => !Region.binds .any e || e.on < i) | none => true) &&
    (List.range i).all fun j => match ks[j]?, ks[i]? with
      | some x, some y => x.indep y || behind ops ops.length j i
      | _, _ => true

theorem behind_listed {ops : Array Oper} {listed : Array Bool} (hdc : ∀ k o, ops[k]? = some o → listed.getD k true = true → k < ops.size → ∀ e ∈ o.after, Region.binds .any e = true → listed.getD e.on false = true) {i : Nat} :
    ∀ (f j i : Nat), (∀ o, ops[i]? = some o → ∀ e ∈ o.after, Region.binds .any e = true → listed.getD e.on false = true) → behind ops.toList f j i = true → listed.getD j false = true := by
  intro f
  induction f with
  | zero => intro j i _ h; simp [behind] at h
  | succ f ih =>
    intro j i hi h
    simp only [behind] at h
    split at h
    · rename_i o ho
      have ho' : ops[i]? = some o := by simpa using ho
      obtain ⟨k, hk, h2⟩ := Array.any_eq_true.1 h
      simp only [Bool.and_eq_true, Bool.or_eq_true, beq_iff_eq] at h2
      have hl := hi o ho' _ (Array.getElem_mem hk) h2.1
      rcases h2.2 with h3 | h3
      · rw [← h3]; exact hl
      · refine ih j _ (fun o2 ho2 e he hb => ?_) h3
        have hlt := (Array.getElem?_eq_some_iff.1 ho2).1
        refine hdc _ o2 ho2 ?_ hlt e he hb
        rcases Nat.lt_or_ge (o.after[k]).on listed.size with h' | h'
        · simp [h'] at hl ⊢; exact hl
        · simp [Array.getElem?_eq_none h']
    · cases h

/-- The same operations, tagged. -/
def Retag (ks ks' : List Ins) : Prop := ks.length = ks'.length ∧ ∀ (i : Nat) k, ks[i]? = some k → ∃ k' : Ins, ks'[i]? = some k' ∧ k'.dst = k.dst ∧ k'.guard = k.guard ∧ k'.kd = k.kd
def retag (f : Nat → Tag) : Nat → List Ins → List Ins
  | _, [] => []
  | i, k :: ks => ⟨k.dst, k.guard, k.kd, f i⟩ :: retag f (i + 1) ks
theorem retag_ok (f : Nat → Tag) : ∀ (n : Nat) (ks : List Ins), Retag ks (retag f n ks)
  | _, [] => ⟨rfl, fun i k h => by simp at h⟩
  | n, k :: ks => by
    obtain ⟨h1, h2⟩ := retag_ok f (n + 1) ks
    refine ⟨by simp [retag, h1], fun i k' hk' => ?_⟩
    cases i with
    | zero =>
      simp only [List.getElem?_cons_zero, Option.some.injEq] at hk'
      subst hk'
      exact ⟨_, rfl, rfl, rfl, rfl⟩
    | succ i => exact h2 i k' (by simpa using hk')
theorem Retag.refl (ks : List Ins) : Retag ks ks := ⟨rfl, fun i k h => ⟨k, h, rfl, rfl, rfl⟩⟩
theorem region_any {mu : List Nat} {ops : Array Oper} {ks0 ks : List Ins} {id : Nat} (hmix : P.follows .mixedOrders = true) (htr : trAll P C.n mu ops.toList ops.toList = some ks0) (hre : Retag ks0 ks) (hok : orderOk ops.toList ks = true) {K : AS → Prop} (R : Refs C σ ι s a w) (h : Run P ks s K) (hn : ∀ s' a' w', K s' → Holds C s' a' w' → Q .normal a' w') :
    (Code.region id ops true).wp P Q a w := by
  obtain ⟨hl0, hget0⟩ := trAll_get htr
  have hl : ops.size = ks.length := by
    rw [← hre.1, ← hl0, Array.length_toList]
  have hget : ∀ (i : Nat) (o : Oper), ops.toList[i]? = some o → ∃ k', ks[i]? = some k' ∧ ∃ k, trIns P C.n mu ops.toList o = some k ∧ k'.dst = k.dst ∧ k'.guard = k.guard ∧ k'.kd = k.kd := fun i o ho => by
    obtain ⟨k, h1, h2⟩ := hget0 i o ho
    obtain ⟨k', q1, q2⟩ := hre.2 i k h1
    exact ⟨k', q1, k, h2, q2⟩
  refine wp_region_any hmix ?_
  have hchk : ∀ i, i < ops.size → (∀ o, ops[i]? = some o → ∀ e ∈ o.after, Region.binds .any e = true → e.on < i) ∧ ∀ j, j < i → ∀ x y, ks[j]? = some x → ks[i]? = some y → x.indep y = true ∨ behind ops.toList ops.toList.length j i = true := fun i hi => by
    have h1 := List.all_eq_true.1 hok i (List.mem_range.2 (by simpa using hi))
    simp only [Bool.and_eq_true] at h1
    refine ⟨fun o ho e he hb => ?_, fun j hj x y hx hy => ?_⟩
    · have h2 := h1.1
      rw [show ops.toList[i]? = some o by simpa using ho] at h2
      dsimp only at h2
      obtain ⟨k, hk, rfl⟩ := Array.getElem_of_mem he
      have h3 := (Array.all_eq_true.1 h2) k hk
      simpa [hb] using h3
    · have h2 := List.all_eq_true.1 h1.2 j (List.mem_range.2 hj)
      rw [hx, hy] at h2
      simpa using h2
  -- the rest: what is not listed, in the text's order
  have key : ∀ (f : Nat) (T : List Nat) (listed : Array Bool) (s : AS) (a : Act) (w : World), T.length ≤ f → listed.size = ops.size → T.Pairwise (· < ·) → (∀ i, i ∈ T ↔ i < ops.size ∧ listed.getD i true = false) →
      (∀ k o, ops[k]? = some o → listed.getD k true = true → k < ops.size → ∀ e ∈ o.after, Region.binds .any e = true → listed.getD e.on false = true) → Holds C s a w → Run P (T.filterMap fun i => ks[i]?) s K → wpAny P .any ops Q f listed a w := by
    intro f
    induction f with
    | zero =>
      intro T listed s a w hf hsz hs hT hdc hH hr
      have hT0 : T = [] := List.eq_nil_of_length_eq_zero (by omega)
      subst hT0
      refine ⟨?_, hn _ _ _ hr hH⟩
      rw [List.eq_nil_iff_forall_not_mem]
      intro i hi
      obtain ⟨q1, o, q2, q3⟩ := mem_ready.1 hi
      have := (hT i).2 ⟨(Array.getElem?_eq_some_iff.1 q2).1, q1⟩
      cases this
    | succ f ih =>
      intro T listed s a w hf hsz hs hT hdc hH hr
      refine ⟨fun hready => ?_, fun i hi => ?_⟩
      · -- nothing may come up: nothing is left
        cases T with
        | nil => exact hn _ _ _ hr hH
        | cons i T =>
          exfalso
          obtain ⟨hi1, hi2⟩ := (hT i).1 (by simp)
          have : i ∈ Region.ready .any ops listed := by
            refine mem_ready.2 ⟨hi2, ops[i], Array.getElem?_eq_getElem hi1, fun e he hb => ?_⟩
            have hlt := (hchk i hi1).1 _ (Array.getElem?_eq_getElem hi1) e he hb
            cases hq : listed.getD e.on true with
            | true =>
              simp [show e.on < listed.size by omega] at hq ⊢
              exact hq
            | false =>
              have hmem := (hT e.on).2 ⟨by omega, hq⟩
              rcases List.mem_cons.1 hmem with h | h
              · omega
              · have := (List.pairwise_cons.1 hs).1 _ h
                omega
          rw [hready] at this
          cases this
      · obtain ⟨q1, o, q2, q3⟩ := mem_ready.1 hi
        have hi1 := (Array.getElem?_eq_some_iff.1 q2).1
        have hmem := (hT i).2 ⟨hi1, q1⟩
        obtain ⟨pre, post, rfl⟩ := List.append_of_mem hmem
        obtain ⟨y, hy1, y0, hy2, hy3⟩ := hget i o (by simpa using q2)
        rw [List.filterMap_append, List.filterMap_cons, hy1] at hr
        dsimp only at hr
        have hpre : ∀ j ∈ pre, j < i := fun j hj => (List.pairwise_append.1 hs).2.2 j hj i (by simp)
        have hfront := run_front (P := P) (K := K) (pre := pre.filterMap fun i => ks[i]?) (y := y) (post := post.filterMap fun i => ks[i]?) (fun x hx => by
          obtain ⟨j, hj, hxj⟩ := List.mem_filterMap.1 hx
          have hji := hpre j hj
          rcases (hchk i hi1).2 j hji x y hxj hy1 with hind | hbe
          · exact hind
          · exfalso
            have h1 := behind_listed (ops := ops) (listed := listed) hdc (i := i) _ j i (fun o2 ho2 e he hb => by
              rw [q2] at ho2
              cases ho2
              exact q3 e he hb) hbe
            have h2 := ((hT j).1 (by simp [hj])).2
            have h3 := ((hT j).1 (by simp [hj])).1
            simp [show j < listed.size by omega] at h1 h2
            rw [h1] at h2
            cases h2) hr
        obtain ⟨σ, ι, R⟩ := hH
        refine ins_sound q2 hy2 hy3 R hfront fun s' a' w' hK hH' => ?_
        rw [← List.filterMap_append] at hK
        have hsub : (pre ++ post).Pairwise (· < ·) := by
          refine hs.sublist ?_
          exact List.Sublist.append (List.Sublist.refl pre) (List.sublist_cons_self i post)
        have hni : i ∉ pre ++ post := fun hm => by
          rcases List.mem_append.1 hm with hm | hm
          · have := hpre i hm; omega
          · have := (List.pairwise_cons.1 (List.pairwise_append.1 hs).2.1).1 i hm; omega
        refine ih (pre ++ post) (listed.setIfInBounds i true) s' a' w' (by simp at hf ⊢; omega) (by simpa using hsz) hsub (fun j => ?_) (fun k ok hok2 hlk hkk e he hb => ?_) hH' hK
        · constructor
          · intro hj
            have hji : i ≠ j := fun e => hni (e ▸ hj)
            have := (hT j).1 (by
              rcases List.mem_append.1 hj with h | h
              · simp [h]
              · simp [h])
            rw [getD_set_ne true hji]
            exact this
          · rintro ⟨h1, h2⟩
            have hji : i ≠ j := fun e => by
              subst e
              simp [show i < listed.size by omega] at h2
            rw [getD_set_ne true hji] at h2
            have := (hT j).2 ⟨h1, h2⟩
            rcases List.mem_append.1 this with h | h
            · exact List.mem_append.2 (.inl h)
            · rcases List.mem_cons.1 h with h | h
              · exact absurd h.symm hji
              · exact List.mem_append.2 (.inr h)
        · by_cases hki : i = k
          · subst hki
            rw [q2] at hok2
            cases hok2
            exact getD_set_true (q3 e he hb)
          · rw [getD_set_ne true hki] at hlk
            exact getD_set_true (hdc k ok hok2 hlk hkk e he hb)
  refine key ops.size (List.range ops.size) (Array.replicate ops.size false) s a _ (by simp) (by simp) List.pairwise_lt_range (fun i => ?_) (fun k o hk hlk hkk e he hb => ?_) ⟨σ, ι, R.drew⟩ ?_
  · rw [List.mem_range]
    constructor
    · intro hi; exact ⟨hi, by simp [hi]⟩
    · exact fun h => h.1
  · simp [hkk] at hlk
  · have e : (List.range ops.size).filterMap (fun i => ks[i]?) = ks := by
      rw [hl]
      exact filterMap_range ks
    rw [e]
    exact h
end
end Go.Proofs.Ytpajlfdhmjgpnaa
