/-
  Part 7 of the texts: BRebase; Shelf; IrComb; BComb; IrFrom; BFrom; BFrom2; IrLam; BLam; BLamMv; BLamPut; BFrom3; BFrom4; BAtoi; IrRed; BRed; BLRead2; BLRead3; IrTo; IrCon; BCon; BTo; BLRead4; BLRead5; BLRead6. Conditions: none.
-/
import Derived.Test.YtaedkffopponhaaDoorToN6
import Derived.Shelf.Strconv.Atoi
import Derived.Shelf.Strconv.AtoiErr
import Derived.Shelf.Strconv.ErrVar
import Derived.Shelf.Strconv.Itoa3
import Derived.Test.YtaedkffopponhaaDoorProg
import Derived.Lib.AppendIntMem
import Derived.Lib.ItoaLen
namespace Go.Proofs.YtaedkffopponhaaDoor
open Go Go.RowKit
set_option linter.unusedVariables false
set_option maxHeartbeats 400000
theorem BRep.cutM {σ : Sto} {S : AStore} {ι : AHnd} {w : World} {h : Hnd} {e : TypeId} {wd : Nat} {xs : List (List SV)} (hr : BRep σ S ι w h (.mrow e wd xs)) (k : Nat) {S' : AStore} {ι' : AHnd} : BRep σ S' ι' w h (.mrow e wd (xs.take k)) := by
  cases hr with
  | mnil h1 h2 => rw [List.take_nil]; exact .mnil h1 h2
  | mrow h1 h2 h3 h4 h5 h6 h7 h8 h9 =>
    refine .mrow h1 h2 h3 (by rw [List.length_take]; omega) h5 h6 (fun x hx => h7 x (List.mem_of_mem_take hx)) (fun j x i a hx ha => h8 j x i a ?_ ha) h9
    rw [List.getElem?_take] at hx
    split at hx
    · exact hx
    · cases hx
theorem Ghost.rebase {C : Ctx} {s : AS} (bx id nid j k N : Nat) {ty e : TypeId} {wd : Nat} {xs : List (List SV)} {cs : List AC} (hN : xs.length < N) (hb : s.S bx = some (.box ty cs)) (hid : s.S id = some (.mrow e wd xs)) (hn : s.S nid = none) (hc : cs[j]? = some (.part id k xs.length) ∨ (cs[j]? = some (.row id k) ∧ k = xs.length)) :
    Ghost C s ⟨s.env, updE (updE (updE s.S id (some (.dead N wd))) nid (some (.mrow e wd (xs.take k)))) bx (some (.box ty (cs.set j (.row nid k))))⟩ := fun a w ⟨σ, ι, R⟩ => by
  have hjl : j < cs.length := by rcases hc with h | ⟨h, _⟩ <;> exact (List.getElem?_eq_some_iff.1 h).1
  have n1 : nid ≠ id := fun e => by subst e; rw [hid] at hn; cases hn
  have n2 : bx ≠ id := fun e => by subst e; rw [hid] at hb; cases hb
  have n3 : bx ≠ nid := fun e => by subst e; rw [hb] at hn; cases hn
  obtain ⟨S2, hS2⟩ : ∃ S2, updE (updE (updE s.S id (some (.dead N wd))) nid (some (.mrow e wd (xs.take k)))) bx (some (.box ty (cs.set j (.row nid k)))) = S2 := ⟨_, rfl⟩
  obtain ⟨ι2, hι2⟩ : ∃ ι2 : AHnd, updE (updE ι id ⟨none, 0, none⟩) nid (ι id) = ι2 := ⟨_, rfl⟩
  rw [hS2]
  have sb : S2 bx = some (.box ty (cs.set j (.row nid k))) := by rw [← hS2, updE_same]
  have sn : S2 nid = some (.mrow e wd (xs.take k)) := by rw [← hS2, updE_ne _ n3.symm, updE_same]
  have si : S2 id = some (.dead N wd) := by rw [← hS2, updE_ne _ n2.symm, updE_ne _ n1.symm, updE_same]
  have so : ∀ i, i ≠ bx → i ≠ nid → i ≠ id → S2 i = s.S i := fun i h1 h2 h3 => by rw [← hS2, updE_ne _ h1, updE_ne _ h2, updE_ne _ h3]
  have ιn : ι2 nid = ι id := by rw [← hι2, updE_same]
  have ιi : ι2 id = ⟨none, 0, none⟩ := by rw [← hι2, updE_ne _ n1.symm, updE_same]
  have ιo : ∀ i, i ≠ nid → i ≠ id → ι2 i = ι i := fun i h2 h3 => by rw [← hι2, updE_ne _ h2, updE_ne _ h3]
  have hu : Upd s.S ι S2 ι2 := fun i b h => by
    by_cases e1 : i = bx
    · subst e1
      rw [hb] at h
      cases h
      exact ⟨_, sb, Nat.le_refl _, fun _ => ⟨rfl, ιo _ n3 n2⟩⟩
    · by_cases e2 : i = id
      · subst e2
        rw [hid] at h
        cases h
        exact ⟨_, si, Nat.le_of_lt hN, fun hl => absurd (show N = xs.length from hl) (by omega)⟩
      · have e3 : i ≠ nid := fun e3 => by subst e3; rw [hn] at h; cases h
        exact ⟨b, (so i e1 e3 e2).trans h, Nat.le_refl _, fun _ => ⟨rfl, ιo i e3 e2⟩⟩
  have old : ∀ i b, S2 i = some b → ∀ g, (ι2 i).g = some g → ∃ i' b', s.S i' = some b' ∧ (ι i').g = some g ∧ (i = nid ∧ i' = id ∨ i' = i ∧ i ≠ nid ∧ i ≠ id) := fun i b h g hg => by
    by_cases e2 : i = id
    · subst e2
      rw [ιi] at hg
      cases hg
    · by_cases e3 : i = nid
      · subst e3
        rw [ιn] at hg
        exact ⟨id, _, hid, hg, .inl ⟨rfl, rfl⟩⟩
      · rw [ιo i e3 e2] at hg
        by_cases e1 : i = bx
        · subst e1
          exact ⟨_, _, hb, hg, .inr ⟨rfl, e3, e2⟩⟩
        · exact ⟨i, b, (so i e1 e3 e2).symm.trans h, hg, .inr ⟨rfl, e3, e2⟩⟩
  refine ⟨σ, ι2, R.size, fun i hi => (R.env i hi).mono (fun _ _ h => h) hu, R.nod, R.fit, fun i b h => ?_, fun i i' b b' g h1 h2 g1 g2 => ?_, fun i b g h hg => ?_, R.ext, R.old, R.os, R.grown, R.same, R.upd.trans hu⟩
  · change S2 i = some b at h
    by_cases e1 : i = bx
    · subst e1
      rw [sb] at h
      cases h
      rw [ιo _ n3 n2]
      cases R.blk _ _ hb with
      | box h1 h2 h3 h4 h5 =>
        refine .box h1 h2 h3 (All2.of_get (by rw [List.length_set]; exact h4.len) fun jj v c hv hcj => ?_) h5
        obtain ⟨c0, hc0⟩ : ∃ c0, cs[jj]? = some c0 := by
          have := (List.getElem?_eq_some_iff.1 hcj).1
          rw [List.length_set] at this
          exact ⟨_, List.getElem?_eq_getElem this⟩
        obtain ⟨v', hv', hr⟩ := h4.get hc0
        rw [hv] at hv'
        cases hv'
        by_cases ej : jj = j
        · subst ej
          rw [List.getElem?_set_self hjl] at hcj
          cases hcj
          rcases hc with hc | ⟨hc, hk⟩
          · rw [hc] at hc0
            cases hc0
            cases hr with
            | part q1 q2 q3 q4 =>
              rw [hid] at q1
              cases q1
              obtain ⟨q5, q6⟩ := q4 rfl
              refine .row sn (by show k ≤ (xs.take k).length; rw [List.length_take]; omega) q3 fun _ => ?_
              rw [ιn]
              exact q6
          · rw [hc] at hc0
            cases hc0
            cases hr with
            | row q1 q2 q3 q4 =>
              rw [hid] at q1
              cases q1
              refine .row sn (by show k ≤ (xs.take k).length; rw [List.length_take]; omega) q3 fun _ => ?_
              rw [ιn]
              exact q4 hk
        · rw [List.getElem?_set_ne (fun h => ej h.symm), hc0] at hcj
          cases hcj
          exact hr.mono (fun _ _ h => h) hu
    · by_cases e2 : i = id
      · subst e2
        rw [si] at h
        cases h
        rw [ιi]
        exact .dead fun g hg => by cases hg
      · by_cases e3 : i = nid
        · subst e3
          rw [sn] at h
          cases h
          rw [ιn]
          exact (R.blk _ _ hid).cutM k
        · rw [ιo i e3 e2]
          exact (R.blk i b ((so i e1 e3 e2).symm.trans h)).mono (fun _ _ h => h) hu (fun _ _ => rfl) (fun _ _ _ _ => rfl)
  · obtain ⟨j1, c1, k1, k2, k3⟩ := old i b h1 g g1
    obtain ⟨j2, c2, l1, l2, l3⟩ := old i' b' h2 g g2
    have := R.inj _ _ _ _ g k1 l1 k2 l2
    rcases k3 with ⟨a1, a2⟩ | ⟨a1, a2, a3⟩ <;> rcases l3 with ⟨b1, b2⟩ | ⟨b1, b2, b3⟩
    · rw [a1, b1]
    · exact absurd (by rw [← b1, ← this, a2] : i' = id) b3
    · exact absurd (by rw [← a1, this, b2] : i = id) a3
    · rw [← a1, ← b1, this]
  · obtain ⟨j1, c1, k1, k2, _⟩ := old i b h g hg
    exact R.base _ _ g k1 k2
theorem Ghost.bury {C : Ctx} {s : AS} (id N wd : Nat) {b : ABlk} (hS : s.S id = some b) (hb : match b with | .mrow _ w xs => xs.length < N ∧ w = wd | .dead n w => n ≤ N ∧ w = wd | _ => False) : Ghost C s (s.set id (.dead N wd)) := fun a w ⟨σ, ι, R⟩ => by
  have hr := R.blk _ _ hS
  have hlen : b.len ≤ N := by
    cases b <;> first | exact hb.elim | exact Nat.le_of_lt hb.1 | exact hb.1
  have hwid : b.wid = wd := by
    cases b <;> first | exact hb.elim | exact hb.2
  obtain ⟨hu, R'⟩ := R.turn (w' := w) hS (.dead N wd) (ι id) (σ' := σ) (fun _ _ h => h) (fun _ _ _ => rfl) R.fit hlen (fun _ => ⟨hwid.symm, rfl⟩) ⟨rfl, rfl, rfl⟩ (Nat.le_refl _) (fun _ _ _ => rfl) (fun g h => .inl h)
    (fun hu => .dead fun g' hg' => hr.own hg')
  exact ⟨σ, _, R'⟩

open Go.Proofs Go.Shelf
def Tryd.lays172_ren : Go.Shelf.Ren := ⟨fun | 172 => 42 | 244 => 47 | 245 => 48 | 247 => 51 | 279 => 52 | 280 => 53 | 281 => 54 | 282 => 55 | 287 => 60 | 316 => 61 | 171 => 39 | 205 => 62 | 321 => 68 | 322 => 69 | 243 => 45 | 246 => 50 | 283 => 56 | 284 => 57 | 285 => 58 | 286 => 59 | 129 => 64 | 317 => 63 | 318 => 65 | 319 => 66 | 320 => 67 | 337 => 70 | 338 => 71 | n => n, fun | 9 => 9 | 3 => 3 | 75 => 70 | 76 => 72 | 4 => 4 | 5 => 5 | 167 => 85 | 37 => 57 | 0 => 0 | 85 => 86 | 2 => 2 | 168 => 88 | 53 => 92 | 175 => 97 | 46 => 99 | 210 => 102 | 127 => 75 | 145 => 114 | 143 => 112 | 21 => 21 | 171 => 91 | 173 => 95 | 212 => 106 | 51 => 107 | 20 => 20 | 213 => 108 | 232 => 116 | 233 => 117 | 80 => 63 | n => n, fun | 15 => 1 | 16 => 2 | 17 => 3 | 18 => 4 | 19 => 5 | n => n⟩
theorem Tryd.lays172 : Go.Proofs.Lays.n172 Tryd.prog Tryd.lays172_ren := {
  mixed := by kernel_rfl
  f129 := Tryd.func64.trans (congrArg some (by kernel_rfl))
  f171 := Tryd.func39.trans (congrArg some (by kernel_rfl))
  f172 := Tryd.func42.trans (congrArg some (by kernel_rfl))
  f205 := Tryd.func62.trans (congrArg some (by kernel_rfl))
  f243 := Tryd.func45.trans (congrArg some (by kernel_rfl))
  f244 := Tryd.func47.trans (congrArg some (by kernel_rfl))
  f245 := Tryd.func48.trans (congrArg some (by kernel_rfl))
  f246 := Tryd.func50.trans (congrArg some (by kernel_rfl))
  f247 := Tryd.func51.trans (congrArg some (by kernel_rfl))
  f279 := Tryd.func52.trans (congrArg some (by kernel_rfl))
  f280 := Tryd.func53.trans (congrArg some (by kernel_rfl))
  f281 := Tryd.func54.trans (congrArg some (by kernel_rfl))
  f282 := Tryd.func55.trans (congrArg some (by kernel_rfl))
  f283 := Tryd.func56.trans (congrArg some (by kernel_rfl))
  f284 := Tryd.func57.trans (congrArg some (by kernel_rfl))
  f285 := Tryd.func58.trans (congrArg some (by kernel_rfl))
  f286 := Tryd.func59.trans (congrArg some (by kernel_rfl))
  f287 := Tryd.func60.trans (congrArg some (by kernel_rfl))
  f316 := Tryd.func61.trans (congrArg some (by kernel_rfl))
  f317 := Tryd.func63.trans (congrArg some (by kernel_rfl))
  f318 := Tryd.func65.trans (congrArg some (by kernel_rfl))
  f319 := Tryd.func66.trans (congrArg some (by kernel_rfl))
  f320 := Tryd.func67.trans (congrArg some (by kernel_rfl))
  f321 := Tryd.func68.trans (congrArg some (by kernel_rfl))
  f322 := Tryd.func69.trans (congrArg some (by kernel_rfl))
  f337 := Tryd.func70.trans (congrArg some (by kernel_rfl))
  f338 := Tryd.func71.trans (congrArg some (by kernel_rfl))
  t0 := Tryd.underlying0
  a0 := Tryd.isAgg0
  z0 := Tryd.sizeOf0
  v0 := Tryd.zeroValue0
  t2 := Tryd.underlying2
  a2 := Tryd.isAgg2
  z2 := Tryd.sizeOf2
  v2 := Tryd.zeroValue2
  t3 := Tryd.underlying3
  a3 := Tryd.isAgg3
  z3 := Tryd.sizeOf3
  v3 := Tryd.zeroValue3
  t4 := Tryd.underlying4
  a4 := Tryd.isAgg4
  z4 := Tryd.sizeOf4
  v4 := Tryd.zeroValue4
  t5 := Tryd.underlying5
  a5 := Tryd.isAgg5
  z5 := Tryd.sizeOf5
  v5 := Tryd.zeroValue5
  t9 := Tryd.underlying9
  a9 := Tryd.isAgg9
  z9 := Tryd.sizeOf9
  v9 := Tryd.zeroValue9
  t20 := Tryd.underlying20
  a20 := Tryd.isAgg20
  z20 := Tryd.sizeOf20
  v20 := Tryd.zeroValue20
  t21 := Tryd.underlying21
  a21 := Tryd.isAgg21
  z21 := Tryd.sizeOf21
  v21 := Tryd.zeroValue21
  t37 := Tryd.underlying57
  a37 := Tryd.isAgg57
  z37 := Tryd.sizeOf57
  v37 := Tryd.zeroValue57
  t46 := Tryd.underlying99
  a46 := Tryd.isAgg99
  z46 := Tryd.sizeOf99
  v46 := Tryd.zeroValue99
  t51 := Tryd.underlying107
  a51 := Tryd.isAgg107
  z51 := Tryd.sizeOf107
  v51 := Tryd.zeroValue107
  t53 := Tryd.underlying92
  a53 := Tryd.isAgg92
  z53 := Tryd.sizeOf92
  v53 := Tryd.zeroValue92
  t75 := Tryd.underlying70
  a75 := Tryd.isAgg70
  z75 := Tryd.sizeOf70
  v75 := Tryd.zeroValue70
  t76 := Tryd.underlying72
  a76 := Tryd.isAgg72
  z76 := Tryd.sizeOf72
  v76 := Tryd.zeroValue72
  t85 := Tryd.underlying86
  a85 := Tryd.isAgg86
  z85 := Tryd.sizeOf86
  v85 := Tryd.zeroValue86
  t127 := Tryd.underlying75
  a127 := Tryd.isAgg75
  z127 := Tryd.sizeOf75
  v127 := Tryd.zeroValue75
  t143 := Tryd.underlying112
  a143 := Tryd.isAgg112
  z143 := Tryd.sizeOf112
  v143 := Tryd.zeroValue112
  t145 := Tryd.underlying114
  a145 := Tryd.isAgg114
  z145 := Tryd.sizeOf114
  v145 := Tryd.zeroValue114
  t167 := Tryd.underlying85
  a167 := Tryd.isAgg85
  z167 := Tryd.sizeOf85
  v167 := Tryd.zeroValue85
  t168 := Tryd.underlying88
  a168 := Tryd.isAgg88
  z168 := Tryd.sizeOf88
  v168 := Tryd.zeroValue88
  t171 := Tryd.underlying91
  a171 := Tryd.isAgg91
  z171 := Tryd.sizeOf91
  v171 := Tryd.zeroValue91
  t173 := Tryd.underlying95
  a173 := Tryd.isAgg95
  z173 := Tryd.sizeOf95
  v173 := Tryd.zeroValue95
  t175 := Tryd.underlying97
  a175 := Tryd.isAgg97
  z175 := Tryd.sizeOf97
  v175 := Tryd.zeroValue97
  t210 := Tryd.underlying102
  a210 := Tryd.isAgg102
  z210 := Tryd.sizeOf102
  v210 := Tryd.zeroValue102
  t212 := Tryd.underlying106
  a212 := Tryd.isAgg106
  z212 := Tryd.sizeOf106
  v212 := Tryd.zeroValue106
  t213 := Tryd.underlying108
  a213 := Tryd.isAgg108
  z213 := Tryd.sizeOf108
  t232 := Tryd.underlying116
  a232 := Tryd.isAgg116
  z232 := Tryd.sizeOf116
  v232 := Tryd.zeroValue116
  t233 := Tryd.underlying117
  a233 := Tryd.isAgg117
  z233 := Tryd.sizeOf117
  v233 := Tryd.zeroValue117
  g15 := by kernel_rfl
  g16 := by kernel_rfl
  g17 := by kernel_rfl
  g18 := by kernel_rfl
  g19 := by kernel_rfl }
def Tryd.laysC172_ren : Go.Shelf.Ren := ⟨fun | 172 => 42 | 244 => 47 | 245 => 48 | 247 => 51 | 279 => 52 | 280 => 53 | 281 => 54 | 282 => 55 | 287 => 60 | 316 => 61 | 171 => 39 | 205 => 62 | 321 => 68 | 322 => 69 | 243 => 45 | 246 => 50 | 283 => 56 | 284 => 57 | 285 => 58 | 286 => 59 | 129 => 64 | 317 => 63 | 318 => 65 | 319 => 66 | 320 => 67 | 337 => 70 | 338 => 71 | n => n, fun | 9 => 9 | 3 => 3 | 75 => 70 | 76 => 72 | 4 => 4 | 5 => 5 | 167 => 85 | 37 => 57 | 0 => 0 | 85 => 86 | 2 => 2 | 168 => 88 | 53 => 92 | 175 => 97 | 46 => 99 | 210 => 102 | 127 => 75 | 145 => 114 | 143 => 112 | 21 => 21 | 171 => 91 | 173 => 95 | 212 => 106 | 51 => 107 | 20 => 20 | 213 => 108 | 232 => 116 | 233 => 117 | 80 => 63 | n => n, fun | 15 => 1 | 16 => 2 | 17 => 3 | 18 => 4 | 19 => 5 | n => n⟩
theorem Tryd.laysC172 : Go.Proofs.LaysC.n172 Tryd.prog Tryd.laysC172_ren := {
  mixed := by kernel_rfl
  f129 := Tryd.func64.trans (congrArg some (by kernel_rfl))
  f171 := Tryd.func39.trans (congrArg some (by kernel_rfl))
  f172 := Tryd.func42.trans (congrArg some (by kernel_rfl))
  f205 := Tryd.func62.trans (congrArg some (by kernel_rfl))
  f243 := Tryd.func45.trans (congrArg some (by kernel_rfl))
  f244 := Tryd.func47.trans (congrArg some (by kernel_rfl))
  f245 := Tryd.func48.trans (congrArg some (by kernel_rfl))
  f246 := Tryd.func50.trans (congrArg some (by kernel_rfl))
  f247 := Tryd.func51.trans (congrArg some (by kernel_rfl))
  f279 := Tryd.func52.trans (congrArg some (by kernel_rfl))
  f280 := Tryd.func53.trans (congrArg some (by kernel_rfl))
  f281 := Tryd.func54.trans (congrArg some (by kernel_rfl))
  f282 := Tryd.func55.trans (congrArg some (by kernel_rfl))
  f283 := Tryd.func56.trans (congrArg some (by kernel_rfl))
  f284 := Tryd.func57.trans (congrArg some (by kernel_rfl))
  f285 := Tryd.func58.trans (congrArg some (by kernel_rfl))
  f286 := Tryd.func59.trans (congrArg some (by kernel_rfl))
  f287 := Tryd.func60.trans (congrArg some (by kernel_rfl))
  f316 := Tryd.func61.trans (congrArg some (by kernel_rfl))
  f317 := Tryd.func63.trans (congrArg some (by kernel_rfl))
  f318 := Tryd.func65.trans (congrArg some (by kernel_rfl))
  f319 := Tryd.func66.trans (congrArg some (by kernel_rfl))
  f320 := Tryd.func67.trans (congrArg some (by kernel_rfl))
  f321 := Tryd.func68.trans (congrArg some (by kernel_rfl))
  f322 := Tryd.func69.trans (congrArg some (by kernel_rfl))
  f337 := Tryd.func70.trans (congrArg some (by kernel_rfl))
  f338 := Tryd.func71.trans (congrArg some (by kernel_rfl))
  t0 := Tryd.underlying0
  a0 := Tryd.isAgg0
  z0 := Tryd.sizeOf0
  v0 := Tryd.zeroValue0
  t2 := Tryd.underlying2
  a2 := Tryd.isAgg2
  z2 := Tryd.sizeOf2
  v2 := Tryd.zeroValue2
  t3 := Tryd.underlying3
  a3 := Tryd.isAgg3
  z3 := Tryd.sizeOf3
  v3 := Tryd.zeroValue3
  t4 := Tryd.underlying4
  a4 := Tryd.isAgg4
  z4 := Tryd.sizeOf4
  v4 := Tryd.zeroValue4
  t5 := Tryd.underlying5
  a5 := Tryd.isAgg5
  z5 := Tryd.sizeOf5
  v5 := Tryd.zeroValue5
  t9 := Tryd.underlying9
  a9 := Tryd.isAgg9
  z9 := Tryd.sizeOf9
  v9 := Tryd.zeroValue9
  t20 := Tryd.underlying20
  a20 := Tryd.isAgg20
  z20 := Tryd.sizeOf20
  v20 := Tryd.zeroValue20
  t21 := Tryd.underlying21
  a21 := Tryd.isAgg21
  z21 := Tryd.sizeOf21
  v21 := Tryd.zeroValue21
  t37 := Tryd.underlying57
  a37 := Tryd.isAgg57
  z37 := Tryd.sizeOf57
  v37 := Tryd.zeroValue57
  t46 := Tryd.underlying99
  a46 := Tryd.isAgg99
  z46 := Tryd.sizeOf99
  v46 := Tryd.zeroValue99
  t51 := Tryd.underlying107
  a51 := Tryd.isAgg107
  z51 := Tryd.sizeOf107
  v51 := Tryd.zeroValue107
  t53 := Tryd.underlying92
  a53 := Tryd.isAgg92
  z53 := Tryd.sizeOf92
  v53 := Tryd.zeroValue92
  t75 := Tryd.underlying70
  a75 := Tryd.isAgg70
  z75 := Tryd.sizeOf70
  v75 := Tryd.zeroValue70
  t76 := Tryd.underlying72
  a76 := Tryd.isAgg72
  z76 := Tryd.sizeOf72
  v76 := Tryd.zeroValue72
  t85 := Tryd.underlying86
  a85 := Tryd.isAgg86
  z85 := Tryd.sizeOf86
  v85 := Tryd.zeroValue86
  t127 := Tryd.underlying75
  a127 := Tryd.isAgg75
  z127 := Tryd.sizeOf75
  v127 := Tryd.zeroValue75
  t143 := Tryd.underlying112
  a143 := Tryd.isAgg112
  z143 := Tryd.sizeOf112
  v143 := Tryd.zeroValue112
  t145 := Tryd.underlying114
  a145 := Tryd.isAgg114
  z145 := Tryd.sizeOf114
  v145 := Tryd.zeroValue114
  t167 := Tryd.underlying85
  a167 := Tryd.isAgg85
  z167 := Tryd.sizeOf85
  v167 := Tryd.zeroValue85
  t168 := Tryd.underlying88
  a168 := Tryd.isAgg88
  z168 := Tryd.sizeOf88
  v168 := Tryd.zeroValue88
  t171 := Tryd.underlying91
  a171 := Tryd.isAgg91
  z171 := Tryd.sizeOf91
  v171 := Tryd.zeroValue91
  t173 := Tryd.underlying95
  a173 := Tryd.isAgg95
  z173 := Tryd.sizeOf95
  v173 := Tryd.zeroValue95
  t175 := Tryd.underlying97
  a175 := Tryd.isAgg97
  z175 := Tryd.sizeOf97
  v175 := Tryd.zeroValue97
  t210 := Tryd.underlying102
  a210 := Tryd.isAgg102
  z210 := Tryd.sizeOf102
  v210 := Tryd.zeroValue102
  t212 := Tryd.underlying106
  a212 := Tryd.isAgg106
  z212 := Tryd.sizeOf106
  v212 := Tryd.zeroValue106
  t213 := Tryd.underlying108
  a213 := Tryd.isAgg108
  z213 := Tryd.sizeOf108
  t232 := Tryd.underlying116
  a232 := Tryd.isAgg116
  z232 := Tryd.sizeOf116
  v232 := Tryd.zeroValue116
  t233 := Tryd.underlying117
  a233 := Tryd.isAgg117
  z233 := Tryd.sizeOf117
  v233 := Tryd.zeroValue117
  g15 := by kernel_rfl
  g16 := by kernel_rfl
  g17 := by kernel_rfl
  g18 := by kernel_rfl
  g19 := by kernel_rfl
  t80 := Tryd.underlying63
  a80 := Tryd.isAgg63
  z80 := Tryd.sizeOf63
  v80 := Tryd.zeroValue63
  i0 := by kernel_rfl
  i2 := by kernel_rfl
  i3 := by kernel_rfl
  i4 := by kernel_rfl
  i5 := by kernel_rfl
  i9 := by kernel_rfl
  i20 := by kernel_rfl
  i21 := by kernel_rfl
  i37 := by kernel_rfl
  i46 := by kernel_rfl
  i51 := by kernel_rfl
  i53 := by kernel_rfl
  i75 := by kernel_rfl
  i76 := by kernel_rfl
  i80 := by kernel_rfl
  i85 := by kernel_rfl
  i127 := by kernel_rfl
  i143 := by kernel_rfl
  i145 := by kernel_rfl
  i167 := by kernel_rfl
  i168 := by kernel_rfl
  i171 := by kernel_rfl
  i173 := by kernel_rfl
  i175 := by kernel_rfl
  i210 := by kernel_rfl
  i212 := by kernel_rfl
  i232 := by kernel_rfl
  i233 := by kernel_rfl
  m15 := by kernel_rfl
  m16 := by kernel_rfl
  m17 := by kernel_rfl
  m18 := by kernel_rfl
  m19 := by kernel_rfl
  c0 := by kernel_rfl
  c2 := by kernel_rfl
  c3 := by kernel_rfl
  c4 := by kernel_rfl
  c5 := by kernel_rfl
  c9 := by kernel_rfl
  c20 := by kernel_rfl
  c21 := by kernel_rfl
  c37 := by kernel_rfl
  c46 := by kernel_rfl
  c51 := by kernel_rfl
  c53 := by kernel_rfl
  c75 := by kernel_rfl
  c76 := by kernel_rfl
  c80 := by kernel_rfl
  c85 := by kernel_rfl
  c127 := by kernel_rfl
  c143 := by kernel_rfl
  c145 := by kernel_rfl
  c167 := by kernel_rfl
  c168 := by kernel_rfl
  c171 := by kernel_rfl
  c173 := by kernel_rfl
  c175 := by kernel_rfl
  c210 := by kernel_rfl
  c212 := by kernel_rfl
  c213 := by kernel_rfl
  c232 := by kernel_rfl
  c233 := by kernel_rfl }
def Tryd.laysM171_ren : Go.Shelf.Ren := ⟨fun | 171 => 39 | 243 => 45 | 246 => 50 | 283 => 56 | 284 => 57 | 285 => 58 | 286 => 59 | 129 => 64 | 317 => 63 | 318 => 65 | 319 => 66 | 320 => 67 | 337 => 70 | 338 => 71 | n => n, fun | 3 => 3 | 9 => 9 | 2 => 2 | 4 => 4 | 171 => 91 | 0 => 0 | 53 => 92 | 37 => 57 | 5 => 5 | 173 => 95 | 212 => 106 | 51 => 107 | 20 => 20 | 213 => 108 | 46 => 99 | 232 => 116 | 233 => 117 | n => n, fun | 17 => 3 | 18 => 4 | 19 => 5 | n => n⟩
theorem Tryd.laysM171 : Go.Proofs.LaysM.n171 Tryd.prog Tryd.laysM171_ren := {
  mixed := by kernel_rfl
  f129 := Tryd.func64.trans (congrArg some (by kernel_rfl))
  f171 := Tryd.func39.trans (congrArg some (by kernel_rfl))
  f243 := Tryd.func45.trans (congrArg some (by kernel_rfl))
  f246 := Tryd.func50.trans (congrArg some (by kernel_rfl))
  f283 := Tryd.func56.trans (congrArg some (by kernel_rfl))
  f284 := Tryd.func57.trans (congrArg some (by kernel_rfl))
  f285 := Tryd.func58.trans (congrArg some (by kernel_rfl))
  f286 := Tryd.func59.trans (congrArg some (by kernel_rfl))
  f317 := Tryd.func63.trans (congrArg some (by kernel_rfl))
  f318 := Tryd.func65.trans (congrArg some (by kernel_rfl))
  f319 := Tryd.func66.trans (congrArg some (by kernel_rfl))
  f320 := Tryd.func67.trans (congrArg some (by kernel_rfl))
  f337 := Tryd.func70.trans (congrArg some (by kernel_rfl))
  f338 := Tryd.func71.trans (congrArg some (by kernel_rfl))
  t0 := Tryd.underlying0
  a0 := Tryd.isAgg0
  z0 := Tryd.sizeOf0
  v0 := Tryd.zeroValue0
  t2 := Tryd.underlying2
  a2 := Tryd.isAgg2
  z2 := Tryd.sizeOf2
  v2 := Tryd.zeroValue2
  t3 := Tryd.underlying3
  a3 := Tryd.isAgg3
  z3 := Tryd.sizeOf3
  v3 := Tryd.zeroValue3
  t4 := Tryd.underlying4
  a4 := Tryd.isAgg4
  z4 := Tryd.sizeOf4
  v4 := Tryd.zeroValue4
  t5 := Tryd.underlying5
  a5 := Tryd.isAgg5
  z5 := Tryd.sizeOf5
  v5 := Tryd.zeroValue5
  t9 := Tryd.underlying9
  a9 := Tryd.isAgg9
  z9 := Tryd.sizeOf9
  v9 := Tryd.zeroValue9
  t20 := Tryd.underlying20
  a20 := Tryd.isAgg20
  z20 := Tryd.sizeOf20
  v20 := Tryd.zeroValue20
  t37 := Tryd.underlying57
  a37 := Tryd.isAgg57
  z37 := Tryd.sizeOf57
  v37 := Tryd.zeroValue57
  t46 := Tryd.underlying99
  a46 := Tryd.isAgg99
  z46 := Tryd.sizeOf99
  v46 := Tryd.zeroValue99
  t51 := Tryd.underlying107
  a51 := Tryd.isAgg107
  z51 := Tryd.sizeOf107
  v51 := Tryd.zeroValue107
  t53 := Tryd.underlying92
  a53 := Tryd.isAgg92
  z53 := Tryd.sizeOf92
  v53 := Tryd.zeroValue92
  t171 := Tryd.underlying91
  a171 := Tryd.isAgg91
  z171 := Tryd.sizeOf91
  v171 := Tryd.zeroValue91
  t173 := Tryd.underlying95
  a173 := Tryd.isAgg95
  z173 := Tryd.sizeOf95
  v173 := Tryd.zeroValue95
  t212 := Tryd.underlying106
  a212 := Tryd.isAgg106
  z212 := Tryd.sizeOf106
  v212 := Tryd.zeroValue106
  t213 := Tryd.underlying108
  a213 := Tryd.isAgg108
  z213 := Tryd.sizeOf108
  t232 := Tryd.underlying116
  a232 := Tryd.isAgg116
  z232 := Tryd.sizeOf116
  v232 := Tryd.zeroValue116
  t233 := Tryd.underlying117
  a233 := Tryd.isAgg117
  z233 := Tryd.sizeOf117
  v233 := Tryd.zeroValue117
  g17 := by kernel_rfl
  g18 := by kernel_rfl
  g19 := by kernel_rfl
  i0 := by kernel_rfl
  i2 := by kernel_rfl
  i3 := by kernel_rfl
  i4 := by kernel_rfl
  i5 := by kernel_rfl
  i9 := by kernel_rfl
  i20 := by kernel_rfl
  i37 := by kernel_rfl
  i46 := by kernel_rfl
  i51 := by kernel_rfl
  i53 := by kernel_rfl
  i171 := by kernel_rfl
  i173 := by kernel_rfl
  i212 := by kernel_rfl
  i232 := by kernel_rfl
  i233 := by kernel_rfl
  m17 := by kernel_rfl
  m18 := by kernel_rfl
  m19 := by kernel_rfl }

set_option maxRecDepth 100000

set_option linter.unusedSimpArgs false



set_option maxHeartbeats 1000000

def ir_lambda_within : IR :=
  (.seq (.ops [.i 2 (.box 26 (.t 0)), .i 4 (.mov (.n 0))]) (.seq (.ops [.m 7 1, .i 8 (.bin .sub (.t 7) (.n 1)), .m 1 8]) (.seq (.seq (.ops [.f 9 2 2, .l 10 9, .i 11 (.len false (.t 10)), .i 12 (.mov (.n 0))]) (.block 0 (.loop (.seq (.ops [.i 13 (.bin .lss (.t 12) (.t 11))]) (.seq (.cond (.t 13) .skip (.exit 0)) (.seq (.block 1 (.seq (.ops [.i 14 (.indexAddr 3 (.t 10) (.t 12)), .L 15 3 14, .i 6 (.alloc 26 [.st (.int .i64 0), .st (.int .i64 0), .full []]), .s 3 6 15]) (.seq (.seq (.ops [.m 16 1, .i 17 (.bin .lss (.t 16) (.n 0))]) (.cond (.t 17) (.exit 0) .skip)) (.ops [.L 18 3 6, .m 19 1, .i 20 (.call 35 [.t 18, .t 19]), .m 1 20])))) (.ops [.i 21 (.bin .add (.t 12) (.n 1)), .m 12 21]))))))) (.seq (.ops [.m 22 1, .m 4 22]) .ret))))
theorem ok_lambda_within : OkF Tryd.prog 35 23 [] ir_lambda_within [.t 4] := .of Tryd.func35 rfl rfl (by kernel_rfl) rfl
def ir_lambda_check : IR :=
  (.seq (.ops [.i 3 (.box 26 (.t 0)), .i 6 (.mov (.n 0))]) (.seq (.seq (.ops [.f 11 0 3, .l 12 11, .i 13 (.bin .lss (.t 12) (.n 1)), .m 14 13, .mk (some 15) (some (14, false)) (.fieldAddr 0 (.t 3)) .no, .mk (some 16) (some (14, false)) (.load false 1 (.t 15)) .no, .mk (some 17) (some (14, false)) (.bin .gtr (.t 16) (.n 5)) .no, .i 18 (.pick (.t 14) (.c (.one (.st (.bool true)))) (.t 17)), .m 19 18, .mk (some 20) (some (19, false)) (.fieldAddr 2 (.t 3)) .no, .mk (some 21) (some (19, false)) (.load false 1 (.t 20)) .no, .mk (some 22) (some (19, false)) (.len false (.t 21)) .no, .mk (some 23) (some (19, false)) (.fieldAddr 0 (.t 3)) .no, .mk (some 24) (some (19, false)) (.load false 1 (.t 23)) .no, .mk (some 25) (some (19, false)) (.indexArr 6 1 (.c (.one (.eptr [.int .i64 0, .int .i64 0, .int .i64 1, .int .i64 2, .int .i64 0, .int .i64 0]))) (.t 24)) .no, .mk (some 26) (some (19, false)) (.load false 1 (.t 25)) .no, .mk (some 27) (some (19, false)) (.bin .neq (.t 22) (.t 26)) .no, .i 28 (.pick (.t 19) (.c (.one (.st (.bool true)))) (.t 27))]) (.cond (.t 28) (.seq (.ops [.i 6 (.mov (.n 2))]) .ret) .skip)) (.seq (.ops [.i 7 (.mov (.n 1))]) (.seq (.seq (.ops [.f 29 0 3, .l 30 29]) (.block 0 (.seq (.ops [.i 32 (.bin .eql (.t 30) (.n 1)), .m 31 32]) (.cond (.t 31) (.ops [.m 33 1, .m 7 33]) (.seq (.ops [.i 35 (.bin .eql (.t 30) (.n 4)), .m 34 35]) (.cond (.t 34) (.ops [.i 7 (.mov (.n 40))]) (.seq (.ops [.i 37 (.bin .eql (.t 30) (.n 5)), .m 36 37]) (.cond (.t 36) (.ops [.m 38 2, .m 7 38]) .skip)))))))) (.seq (.seq (.ops [.f 39 1 3, .l 40 39, .i 41 (.bin .lss (.t 40) (.n 0)), .m 42 41, .mk (some 43) (some (42, false)) (.fieldAddr 1 (.t 3)) .no, .mk (some 44) (some (42, false)) (.load false 1 (.t 43)) .no, .mk (some 45) (some (42, false)) (.mov (.t 7)) .no, .mk (some 46) (some (42, false)) (.bin .geq (.t 44) (.t 45)) .no, .i 47 (.pick (.t 42) (.c (.one (.st (.bool true)))) (.t 46))]) (.cond (.t 47) (.seq (.ops [.i 6 (.mov (.n 15))]) .ret) .skip)) (.seq (.seq (.ops [.f 48 0 3, .l 49 48, .i 50 (.bin .eql (.t 49) (.n 2))]) (.cond (.t 50) (.ops [.m 51 1, .i 52 (.bin .add (.t 51) (.n 1)), .m 1 52]) .skip)) (.seq (.seq (.ops [.f 53 2 3, .l 54 53, .i 55 (.len false (.t 54)), .i 56 (.mov (.n 0))]) (.block 1 (.loop (.seq (.ops [.i 57 (.bin .lss (.t 56) (.t 55))]) (.seq (.cond (.t 57) .skip (.exit 1)) (.seq (.block 2 (.seq (.ops [.i 58 (.indexAddr 3 (.t 54) (.t 56)), .L 59 3 58, .i 9 (.alloc 26 [.st (.int .i64 0), .st (.int .i64 0), .full []]), .s 3 9 59]) (.seq (.ops [.L 60 3 9, .m 61 1, .m 62 2, .i 63 (.call 36 [.t 60, .t 61, .t 62]), .m 10 63]) (.seq (.ops [.m 64 10, .i 65 (.bin .neq (.t 64) (.n 0))]) (.cond (.t 65) (.seq (.ops [.m 66 10, .m 6 66]) .ret) .skip))))) (.ops [.i 67 (.bin .add (.t 56) (.n 1)), .m 56 67]))))))) (.seq (.ops [.i 6 (.mov (.n 0))]) .ret))))))))
theorem ok_lambda_check : OkF Tryd.prog 36 68 [] ir_lambda_check [.t 6] := .of Tryd.func36 rfl rfl (by kernel_rfl) rfl
def ir_lambda_CheckWith : IR :=
  (.seq (.ops [.i 3 (.box 26 (.t 0)), .i 6 (.mov (.n 0))]) (.seq (.seq (.ops [.m 7 1, .i 8 (.bin .lss (.t 7) (.n 0)), .m 9 8, .mk (some 10) (some (9, false)) (.mov (.t 1)) .no, .mk (some 11) (some (9, false)) (.bin .gtr (.t 10) (.n 40)) .no, .i 12 (.pick (.t 9) (.c (.one (.st (.bool true)))) (.t 11))]) (.cond (.t 12) (.seq (.ops [.i 6 (.mov (.n 10))]) .ret) .skip)) (.seq (.seq (.ops [.L 13 3 3, .i 14 (.call 35 [.t 13, .n 200]), .i 15 (.bin .lss (.t 14) (.n 0))]) (.cond (.t 15) (.seq (.ops [.i 6 (.mov (.n 3))]) .ret) .skip)) (.seq (.ops [.L 16 3 3, .m 17 1, .m 18 2, .i 19 (.call 36 [.t 16, .t 17, .t 18]), .m 6 19]) .ret))))
theorem ok_lambda_CheckWith : OkF Tryd.prog 23 20 [] ir_lambda_CheckWith [.t 6] := .of Tryd.func23 rfl rfl (by kernel_rfl) rfl
def ir_lambda_Check : IR :=
  (.seq (.ops [.i 2 (.box 26 (.t 0)), .i 4 (.mov (.n 0))]) (.seq (.ops [.L 5 3 2, .m 6 1, .i 7 (.call 23 [.t 5, .t 6, .n 0]), .m 4 7]) .ret))
theorem ok_lambda_Check : OkF Tryd.prog 11 8 [] ir_lambda_Check [.t 4] := .of Tryd.func11 rfl rfl (by kernel_rfl) rfl
def ir_lambda_V : IR :=
  (.seq (.ops [.i 2 (.alloc 26 [.st (.int .i64 0), .st (.int .i64 0), .full []])]) (.seq (.ops [.m 3 0, .i 4 (.build [.st (.int .i64 0), .st (.int .i64 0), .full []] [(0, 1, .n 1), (1, 1, .t 3)]), .s 3 2 4]) .ret))
theorem ok_lambda_V : OkF Tryd.prog 41 5 [] ir_lambda_V [.cell 2 true 3] := .of Tryd.func41 rfl rfl (by kernel_rfl) rfl
def ir_R_SameLam : IR :=
  (.seq (.ops [.i 2 (.box 26 (.t 0)), .i 3 (.box 26 (.t 1)), .i 4 (.mov (.c (.one (.st (.bool false)))))]) (.seq (.seq (.ops [.f 6 0 2, .l 7 6, .f 8 0 3, .l 9 8, .i 10 (.bin .neq (.t 7) (.t 9)), .m 11 10, .mk (some 12) (some (11, false)) (.fieldAddr 1 (.t 2)) .no, .mk (some 13) (some (11, false)) (.load false 1 (.t 12)) .no, .mk (some 14) (some (11, false)) (.fieldAddr 1 (.t 3)) .no, .mk (some 15) (some (11, false)) (.load false 1 (.t 14)) .no, .mk (some 16) (some (11, false)) (.bin .neq (.t 13) (.t 15)) .no, .i 17 (.pick (.t 11) (.c (.one (.st (.bool true)))) (.t 16)), .m 18 17, .mk (some 19) (some (18, false)) (.fieldAddr 2 (.t 2)) .no, .mk (some 20) (some (18, false)) (.load false 1 (.t 19)) .no, .mk (some 21) (some (18, false)) (.len false (.t 20)) .no, .mk (some 22) (some (18, false)) (.fieldAddr 2 (.t 3)) .no, .mk (some 23) (some (18, false)) (.load false 1 (.t 22)) .no, .mk (some 24) (some (18, false)) (.len false (.t 23)) .no, .mk (some 25) (some (18, false)) (.bin .neq (.t 21) (.t 24)) .no, .i 26 (.pick (.t 18) (.c (.one (.st (.bool true)))) (.t 25))]) (.cond (.t 26) (.seq (.ops [.i 4 (.mov (.c (.one (.st (.bool false)))))]) .ret) .skip)) (.seq (.seq (.ops [.i 5 (.mov (.n 0))]) (.block 0 (.loop (.seq (.seq (.ops [.m 27 5, .f 28 2 2, .l 29 28, .i 30 (.len false (.t 29)), .i 31 (.bin .lss (.t 27) (.t 30))]) (.cond (.t 31) .skip (.exit 0))) (.seq (.block 1 (.seq (.ops [.f 34 2 2, .l 35 34, .m 36 5, .i 37 (.indexAddr 3 (.t 35) (.t 36)), .L 38 3 37, .f 39 2 3, .l 40 39, .m 41 5, .i 42 (.indexAddr 3 (.t 40) (.t 41)), .L 43 3 42, .i 44 (.call 8 [.t 38, .t 43]), .i 45 (.un .not (.t 44))]) (.cond (.t 45) (.seq (.ops [.i 4 (.mov (.c (.one (.st (.bool false)))))]) .ret) .skip))) (.ops [.m 32 5, .i 33 (.bin .add (.t 32) (.n 1)), .m 5 33])))))) (.seq (.ops [.i 4 (.mov (.c (.one (.st (.bool true)))))]) .ret))))
theorem ok_R_SameLam : OkF Tryd.prog 8 46 [] ir_R_SameLam [.t 4] := .of Tryd.func8 rfl rfl (by kernel_rfl) rfl
def ir_R_Var : IR :=
  (.seq (.ops [.i 2 (.alloc 26 [.st (.int .i64 0), .st (.int .i64 0), .full []])]) (.seq (.ops [.m 3 0, .i 4 (.build [.st (.int .i64 0), .st (.int .i64 0), .full []] [(0, 1, .n 1), (1, 1, .t 3)]), .s 3 2 4]) .ret))
theorem ok_R_Var : OkF Tryd.prog 18 5 [] ir_R_Var [.cell 2 true 3] := .of Tryd.func18 rfl rfl (by kernel_rfl) rfl

theorem lwithin_a (t : Lm) (m : Int) (h0 : 0 ≤ m) (h1 : m ≤ 9223372036854775807) : ACalls Tryd.prog 35 [aLm t, aInt m] (aInt (lessBy t.size m)) := by
  induction h : SizeOf.sizeOf t using Nat.strongRecOn generalizing t m with
  | _ N ih =>
  subst h
  have hs := Lm.size_eq t
  refine ok_lambda_within.ac fun C hC => ?_
  unfold ir_lambda_within
  refine IWP.learn 0 (by omega) fun hkn => ?_
  have hkn := (known_lm hkn).2.2
  repeat' (first | (with_reducible first | refine W ?_ | refine Wz0 ?_) | ((with_reducible first | refine Wo (fun K hK => ?_) | refine Wq ?_ | refine Wr ?_); (try simp only [go_sem, fN, seval, eT, iR]); (repeat with_reducible refine Ai ?_); (try (refine hK _ ?_; clear hK K))))
  refine IWP.loopD [6] (fun n s => ∃ k, k ≤ t.subs.length ∧ n = t.subs.length - k ∧ s.env 1 = aInt (lessBy (1 + Lm.sizes (t.subs.take k)) m) ∧ s.env 10 = .one (.st (.list (t.subs.map encL))) ∧ s.env 11 = aInt t.subs.length ∧ s.env 12 = aInt k ∧ s.S 6 = none) t.subs.length ⟨0, Nat.zero_le _, rfl, by
    simp only [go_sem, fN, seval, eT, iR]
    rw [lessBy]
    have z0 : Lm.sizes [] = 0 := rfl
    congr 3
    split <;> omega, rfl, rfl, rfl, rfl⟩ ?_
  rintro n ⟨env, S⟩ ⟨k, hk, rfl, e1, e10, e11, e12, s6⟩
  simp only at e1 e10 e11 e12 s6
  repeat' (first | (with_reducible first | refine W ?_ | refine Wz0 ?_) | ((with_reducible first | refine Wo (fun K hK => ?_) | refine Wq ?_ | refine Wr ?_); (try simp only [go_sem, fN, seval, eT, iR, e1, e10, e11, e12, s6]); (repeat with_reducible refine Ai ?_); (try (refine hK _ ?_; clear hK K))))
  with_reducible refine Wp ?_
  simp only [go_sem, fN, seval, true_implies, false_implies, implies_true, dT, dF, nL, e1, e10, e11, e12, s6]
  (try with_reducible refine iC ?_)
  refine ⟨fun hlt => ?_, fun hge => ?_⟩
  · obtain ⟨a, ha⟩ := get_lt (show k < t.subs.length by omega)
    have z1 := Lm.sizes_take ha
    have z2 := Lm.sizes_take_le t.subs (k + 1)
    have z3 := Lm.length_le t.subs
    have z4 := lessBy_le (1 + Lm.sizes (t.subs.take k)) m h0
    repeat' (first | (with_reducible first | refine W ?_ | refine Wz0 ?_) | ((with_reducible first | refine Wo (fun K hK => ?_) | refine Wq ?_ | refine Wr ?_); (try simp only [go_sem, fN, seval, eT, iR, e1, e10, e11, e12, s6, ha]); (repeat with_reducible refine Ai ?_); (try (refine hK _ ?_; clear hK K))))
    with_reducible refine Wp ?_
    simp only [go_sem, fN, seval, true_implies, false_implies, implies_true, dT, dF, nL, e1]
    (try with_reducible refine iC ?_)
    refine ⟨fun hb => ?_, fun hb => ?_⟩
    · repeat' (first | (with_reducible first | refine W ?_ | refine Wz0 ?_) | ((with_reducible first | refine Wo (fun K hK => ?_) | refine Wq ?_ | refine Wr ?_); (try simp only [go_sem, fN, seval, eT, iR, e1]); (repeat with_reducible refine Ai ?_); (try (refine hK _ ?_; clear hK K))))
      simp only [go_sem, fN, seval, FinQ, AS.result, resAll, resOne, tupV, e1]
      rw [lessBy_neg hb (show _ ≤ t.size by rw [hs]; omega)]
    · repeat' (first | (with_reducible first | refine W ?_ | refine Wz0 ?_) | refine Cg _ (ih _ (Lm.lt_of_sub (mem_of_get ha)) a _ (by omega) (by omega) rfl) ?_ | ((with_reducible first | refine Wo (fun K hK => ?_) | refine Wq ?_ | refine Wr ?_); (try simp only [go_sem, fN, seval, eT, iR, e1, e10, e11, e12, s6, ha]); (repeat with_reducible refine Ai ?_); (try (refine hK _ ?_; clear hK K))))
      refine then_normal ⟨t.subs.length - (k + 1), by omega, k + 1, by omega, rfl, ?_⟩
      simp only [go_sem, fN, seval, AS.drop, dropS, AC.clears, AC.clear, AC.highs, AC.high, Bool.not_false, Bool.true_and, Bool.and_self, AV.purge, AV.purges, AC.purge, ABlk.purge, List.contains_cons, List.contains_nil, Nat.reduceBEq, Bool.or_self, Bool.or_false, Bool.false_or, Bool.or_true, eT, iR, e1, e10, e11, e12, s6]
      exact ⟨by rw [lessBy_step (by omega), z1]; congr 4; omega, by congr 3⟩
  · repeat' (first | (with_reducible first | refine W ?_ | refine Wz0 ?_) | ((with_reducible first | refine Wo (fun K hK => ?_) | refine Wq ?_ | refine Wr ?_); (try simp only [go_sem, fN, seval, eT, iR, e1]); (repeat with_reducible refine Ai ?_); (try (refine hK _ ?_; clear hK K))))
    simp only [go_sem, fN, seval, FinQ, AS.result, resAll, resOne, tupV, e1]
    rw [List.take_of_length_le (by omega), hs]
theorem kinds_of {k : Int} (h : 1 ≤ k ∧ k ≤ 5) : k = 1 ∨ k = 2 ∨ k = 3 ∨ k = 4 ∨ k = 5 := by omega
set_option maxHeartbeats 1000000 in
theorem lcheck_a (t : Lm) (u m : Int) (hu : 0 ≤ u) (hz : u + t.size ≤ 1000000000) : ACalls Tryd.prog 36 [aLm t, aInt u, aInt m] (aInt (t.chk m u)) := by
  induction h : SizeOf.sizeOf t using Nat.strongRecOn generalizing t u with
  | _ N ih =>
  subst h
  have hs := Lm.size_eq t
  have hlen := Lm.length_le t.subs
  refine ok_lambda_check.ac fun C hC => ?_
  unfold ir_lambda_check
  by_cases hk : 1 ≤ t.kind ∧ t.kind ≤ 5
  case neg =>
    rw [Lm.chk_eq, if_neg (fun h => hk ⟨h.1, h.2.1⟩)]
    by_cases h1 : t.kind < 1
    · repeat' (first | (with_reducible first | refine W ?_ | refine Wz0 ?_) | ((with_reducible first | refine Wo (fun K hK => ?_) | refine Wp ?_ | refine Wq ?_ | refine Wr ?_); (try simp only [go_sem, fN, seval, eT, iR, h1, dT, dF, nL]); (repeat with_reducible refine Ai ?_); (try (refine hK _ ?_; clear hK K)); (try with_reducible refine iC ?_)))
      simp only [go_sem, fN, seval, FinQ, AS.result, resAll, resOne, tupV]
    · have h5 : 5 < t.kind := by omega
      repeat' (first | (with_reducible first | refine W ?_ | refine Wz0 ?_) | ((with_reducible first | refine Wo (fun K hK => ?_) | refine Wp ?_ | refine Wq ?_ | refine Wr ?_); (try simp only [go_sem, fN, seval, eT, iR, h1, h5, dT, dF, nL]); (repeat with_reducible refine Ai ?_); (try (refine hK _ ?_; clear hK K)); (try with_reducible refine iC ?_)))
      simp only [go_sem, fN, seval, FinQ, AS.result, resAll, resOne, tupV]
  case pos =>
  have hk5 := kinds_of hk
  have q1 : ¬ t.kind < 1 := by omega
  have q5 : ¬ 5 < t.kind := by omega
  by_cases hl : (t.subs.length : Int) = nSubs t.kind
  case neg =>
    rw [Lm.chk_eq, if_neg (fun h => hl h.2.2)]
    rcases hk5 with hk5 | hk5 | hk5 | hk5 | hk5
    all_goals
      simp only [hk5, nSubs, Int.reduceEq, ↓reduceIte] at hl
      repeat' (first | (with_reducible first | refine W ?_ | refine Wz0 ?_) | ((with_reducible first | refine Wo (fun K hK => ?_) | refine Wp ?_ | refine Wq ?_ | refine Wr ?_); (try simp only [go_sem, fN, seval, eT, iR, hk5, hl, dT, dF, nL]); (repeat with_reducible refine Ai ?_); (try (refine hK _ ?_; clear hK K)); (try with_reducible refine iC ?_)))
      simp only [go_sem, fN, seval, FinQ, AS.result, resAll, resOne, tupV]
  case pos =>
  by_cases h0 : t.idx < 0
  case pos =>
    rw [Lm.chk_eq, if_pos ⟨hk.1, hk.2, hl⟩, if_neg (fun h => by omega)]
    rcases hk5 with hk5 | hk5 | hk5 | hk5 | hk5
    all_goals
      simp only [hk5, nSubs, Int.reduceEq, ↓reduceIte] at hl
      repeat' (first | (with_reducible first | refine W ?_ | refine Wz0 ?_) | ((with_reducible first | refine Wo (fun K hK => ?_) | refine Wp ?_ | refine Wq ?_ | refine Wr ?_); (try simp only [go_sem, fN, seval, eT, iR, hk5, hl, h0, dT, dF, nL]); (repeat with_reducible refine Ai ?_); (try (refine hK _ ?_; clear hK K)); (try with_reducible refine iC ?_)))
      simp only [go_sem, fN, seval, FinQ, AS.result, resAll, resOne, tupV]
  case neg =>
  by_cases hm : mostIdx t.kind u m ≤ t.idx
  case pos =>
    rw [Lm.chk_eq, if_pos ⟨hk.1, hk.2, hl⟩, if_neg (fun h => by omega)]
    rcases hk5 with hk5 | hk5 | hk5 | hk5 | hk5
    all_goals
      simp only [hk5, nSubs, mostIdx, Int.reduceEq, ↓reduceIte] at hl hm
      repeat' (first | (with_reducible first | refine W ?_ | refine Wz0 ?_) | ((with_reducible first | refine Wo (fun K hK => ?_) | refine Wp ?_ | refine Wq ?_ | refine Wr ?_); (try simp only [go_sem, fN, seval, eT, iR, hk5, hl, h0, hm, dT, dF, nL]); (repeat with_reducible refine Ai ?_); (try (refine hK _ ?_; clear hK K)); (try with_reducible refine iC ?_)))
      simp only [go_sem, fN, seval, FinQ, AS.result, resAll, resOne, tupV]
  case neg =>
  rw [Lm.chk_eq, if_pos ⟨hk.1, hk.2, hl⟩, if_pos (by omega)]
  rcases hk5 with hk5 | hk5 | hk5 | hk5 | hk5
  all_goals
    simp only [hk5, nSubs, mostIdx, Int.reduceEq, ↓reduceIte] at hl hm
    repeat' (first | (with_reducible first | refine W ?_ | refine Wz0 ?_) | ((with_reducible first | refine Wo (fun K hK => ?_) | refine Wp ?_ | refine Wq ?_ | refine Wr ?_); (try simp only [go_sem, fN, seval, eT, iR, hk5, hl, h0, hm, dT, dF, nL]); (repeat with_reducible refine Ai ?_); (try (refine hK _ ?_; clear hK K)); (try with_reducible refine iC ?_)))
    refine IWP.loopD [9] (fun n s => ∃ k, k ≤ t.subs.length ∧ n = t.subs.length - k ∧ Lm.chks m (t.subs.take k) (under t.kind u) = 0 ∧ s.env 1 = aInt (under t.kind u) ∧ s.env 2 = aInt m ∧ s.env 54 = .one (.st (.list (t.subs.map encL))) ∧ s.env 55 = aInt t.subs.length ∧ s.env 56 = aInt k ∧ s.S 9 = none) t.subs.length ⟨0, Nat.zero_le _, rfl, rfl, by simp only [hk5, under]; rfl, rfl, rfl, by simp only [go_sem, fN, seval, eT, iR, hl], rfl, rfl⟩ ?_
    rintro n ⟨env, S⟩ ⟨k, hk', rfl, hc, e1, e2, e54, e55, e56, s9⟩
    simp only at e1 e2 e54 e55 e56 s9
    by_cases hlt : (k : Int) < t.subs.length
    · obtain ⟨a, ha⟩ := get_lt (show k < t.subs.length by omega)
      have z3 := Lm.size_mem (mem_of_get ha)
      have hu2 : under t.kind u ≤ u + 1 ∧ 0 ≤ under t.kind u := by unfold under; split <;> omega
      repeat' (first | (with_reducible first | refine W ?_ | refine Wz0 ?_) | ((with_reducible first | refine Wo (fun K hK => ?_) | refine Wp ?_ | refine Wq ?_ | refine Wr ?_); (try simp only [go_sem, fN, seval, eT, iR, e1, e2, e54, e55, e56, s9, ha, hlt, dT, dF, nL]); (repeat with_reducible refine Ai ?_); (try (refine hK _ ?_; clear hK K)); (try with_reducible refine iC ?_)))
      refine ⟨_, ih _ (Lm.lt_of_sub (mem_of_get ha)) a (under t.kind u) hu2.2 (by omega) rfl, ?_⟩
      by_cases hr : a.chk m (under t.kind u) = 0
      · repeat' (first | (with_reducible first | refine W ?_ | refine Wz0 ?_) | ((with_reducible first | refine Wo (fun K hK => ?_) | refine Wp ?_ | refine Wq ?_ | refine Wr ?_); (try simp only [go_sem, fN, seval, eT, iR, e1, e2, e54, e55, e56, s9, hr, dT, dF, nL]); (repeat with_reducible refine Ai ?_); (try (refine hK _ ?_; clear hK K)); (try with_reducible refine iC ?_)))
        refine then_normal ⟨t.subs.length - (k + 1), by omega, k + 1, by omega, rfl, ?_⟩
        simp only [go_sem, fN, seval, AS.drop, dropS, AC.clears, AC.clear, AC.highs, AC.high, Bool.not_false, Bool.true_and, Bool.and_self, AV.purge, AV.purges, AC.purge, ABlk.purge, List.contains_cons, List.contains_nil, Nat.reduceBEq, Bool.or_self, Bool.or_false, Bool.false_or, Bool.or_true, eT, iR, e1, e2, e54, e55, e56, s9]
        exact ⟨by rw [Lm.chks_take ha hc, hr], by congr 3⟩
      · repeat' (first | (with_reducible first | refine W ?_ | refine Wz0 ?_) | ((with_reducible first | refine Wo (fun K hK => ?_) | refine Wp ?_ | refine Wq ?_ | refine Wr ?_); (try simp only [go_sem, fN, seval, eT, iR, e1, e2, e54, e55, e56, s9, hr, dT, dF, nL]); (repeat with_reducible refine Ai ?_); (try (refine hK _ ?_; clear hK K)); (try with_reducible refine iC ?_)))
        simp only [go_sem, fN, seval, FinQ, AS.result, resAll, resOne, tupV]
        simp only [hk5] at hc hr ⊢
        rw [Lm.chks_bad (k := k + 1) (by rw [Lm.chks_take ha hc]; exact hr), Lm.chks_take ha hc]
    · repeat' (first | (with_reducible first | refine W ?_ | refine Wz0 ?_) | ((with_reducible first | refine Wo (fun K hK => ?_) | refine Wp ?_ | refine Wq ?_ | refine Wr ?_); (try simp only [go_sem, fN, seval, eT, iR, e1, e2, e54, e55, e56, s9, hlt, dT, dF, nL]); (repeat with_reducible refine Ai ?_); (try (refine hK _ ?_; clear hK K)); (try with_reducible refine iC ?_)))
      simp only [go_sem, fN, seval, FinQ, AS.result, resAll, resOne, tupV]
      rw [List.take_of_length_le (by omega)] at hc
      simp only [hk5] at hc ⊢
      rw [hc]
theorem lessBy_neg_iff {s : Nat} {m : Int} (h : 0 ≤ m) : lessBy s m < 0 ↔ m < s := by
  unfold lessBy
  split <;> omega
theorem lcheckWith_a (t : Lm) (u m : Int) : ACalls Tryd.prog 23 [aLm t, aInt u, aInt m] (aInt (t.may m u)) := by
  refine ok_lambda_CheckWith.ac fun C hC => ?_
  unfold ir_lambda_CheckWith
  unfold Lm.may
  by_cases h0 : u < 0
  · rw [if_pos (Or.inl h0)]
    repeat' (first | (with_reducible first | refine W ?_ | refine Wz0 ?_) | ((with_reducible first | refine Wo (fun K hK => ?_) | refine Wp ?_ | refine Wq ?_ | refine Wr ?_); (try simp only [go_sem, fN, seval, eT, iR, h0, dT, dF, nL]); (repeat with_reducible refine Ai ?_); (try (refine hK _ ?_; clear hK K)); (try with_reducible refine iC ?_)))
    simp only [go_sem, fN, seval, FinQ, AS.result, resAll, resOne, tupV]
  by_cases h1 : 40 < u
  · rw [if_pos (Or.inr h1)]
    repeat' (first | (with_reducible first | refine W ?_ | refine Wz0 ?_) | ((with_reducible first | refine Wo (fun K hK => ?_) | refine Wp ?_ | refine Wq ?_ | refine Wr ?_); (try simp only [go_sem, fN, seval, eT, iR, h0, h1, dT, dF, nL]); (repeat with_reducible refine Ai ?_); (try (refine hK _ ?_; clear hK K)); (try with_reducible refine iC ?_)))
    simp only [go_sem, fN, seval, FinQ, AS.result, resAll, resOne, tupV]
  rw [if_neg (by omega)]
  have hw := @lessBy_neg_iff t.size 200 (by decide)
  by_cases hz : 200 < t.size
  · have hz' := hw.2 (by omega)
    rw [if_pos hz]
    repeat' (first | (with_reducible first | refine W ?_ | refine Wz0 ?_) | refine Cg _ (lwithin_a t 200 (by decide) (by decide)) ?_ | ((with_reducible first | refine Wo (fun K hK => ?_) | refine Wp ?_ | refine Wq ?_ | refine Wr ?_); (try simp only [go_sem, fN, seval, eT, iR, h0, h1, hz', dT, dF, nL]); (repeat with_reducible refine Ai ?_); (try (refine hK _ ?_; clear hK K)); (try with_reducible refine iC ?_)))
    simp only [go_sem, fN, seval, FinQ, AS.result, resAll, resOne, tupV]
  · have hz' : ¬ lessBy t.size 200 < 0 := fun h => hz (by have := hw.1 h; omega)
    rw [if_neg hz]
    repeat' (first | (with_reducible first | refine W ?_ | refine Wz0 ?_) | refine Cg _ (lwithin_a t 200 (by decide) (by decide)) ?_ | refine Cg _ (lcheck_a t u m (by omega) (by omega)) ?_ | ((with_reducible first | refine Wo (fun K hK => ?_) | refine Wp ?_ | refine Wq ?_ | refine Wr ?_); (try simp only [go_sem, fN, seval, eT, iR, h0, h1, hz', dT, dF, nL]); (repeat with_reducible refine Ai ?_); (try (refine hK _ ?_; clear hK K)); (try with_reducible refine iC ?_)))
    simp only [go_sem, fN, seval, FinQ, AS.result, resAll, resOne, tupV]
theorem lCheck_a (t : Lm) (u : Int) : ACalls Tryd.prog 11 [aLm t, aInt u] (aInt (t.may 0 u)) := by
  refine ok_lambda_Check.ac fun C hC => ?_
  unfold ir_lambda_Check
  repeat' (first | (with_reducible first | refine W ?_ | refine Wz0 ?_) | refine Cg _ (lcheckWith_a t u 0) ?_ | ((with_reducible first | refine Wo (fun K hK => ?_) | refine Wp ?_ | refine Wq ?_ | refine Wr ?_); (try simp only [go_sem, fN, seval, eT, iR, dT, dF, nL]); (repeat with_reducible refine Ai ?_); (try (refine hK _ ?_; clear hK K)); (try with_reducible refine iC ?_)))
  simp only [go_sem, fN, seval, FinQ, AS.result, resAll, resOne, tupV]

theorem lV_a (i : Int) : ACalls Tryd.prog 41 [aInt i] (aLm (.mk 1 i [])) := by
  refine ok_lambda_V.ac fun C hC => ?_
  unfold ir_lambda_V
  repeat' (first | (with_reducible first | refine W ?_ | refine Wz0 ?_) | ((with_reducible first | refine Wo (fun K hK => ?_) | refine Wp ?_ | refine Wq ?_ | refine Wr ?_); (try simp only [go_sem, fN, seval, eT, iR, dT, dF, nL]); (repeat with_reducible refine Ai ?_); (try (refine hK _ ?_; clear hK K)); (try with_reducible refine iC ?_)))
  simp only [go_sem, fN, seval, FinQ, AS.result, resAll, resOne, tupV]
  rfl
theorem lVar_a (i : Int) : ACalls Tryd.prog 18 [aInt i] (aLm (.mk 1 i [])) := by
  refine ok_R_Var.ac fun C hC => ?_
  unfold ir_R_Var
  repeat' (first | (with_reducible first | refine W ?_ | refine Wz0 ?_) | ((with_reducible first | refine Wo (fun K hK => ?_) | refine Wp ?_ | refine Wq ?_ | refine Wr ?_); (try simp only [go_sem, fN, seval, eT, iR, dT, dF, nL]); (repeat with_reducible refine Ai ?_); (try (refine hK _ ?_; clear hK K)); (try with_reducible refine iC ?_)))
  simp only [go_sem, fN, seval, FinQ, AS.result, resAll, resOne, tupV]
  rfl

theorem sameLam_a (t : Lm) : ACalls Tryd.prog 8 [aLm t, aLm t] (aBool true) := by
  induction h : SizeOf.sizeOf t using Nat.strongRecOn generalizing t with
  | _ N ih =>
  subst h
  refine ok_R_SameLam.ac fun C hC => ?_
  unfold ir_R_SameLam
  refine IWP.learn 0 (by omega) fun hkn => ?_
  have hkn := (known_lm hkn).2.2
  repeat' (first | (with_reducible first | refine W ?_ | refine Wz0 ?_) | ((with_reducible first | refine Wo (fun K hK => ?_) | refine Wp ?_ | refine Wq ?_ | refine Wr ?_); (try simp only [go_sem, fN, seval, eT, iR, dT, dF, nL]); (repeat with_reducible refine Ai ?_); (try (refine hK _ ?_; clear hK K)); (try with_reducible refine iC ?_)))
  refine IWP.loop (fun n s => ∃ k, k ≤ t.subs.length ∧ n = t.subs.length - k ∧ s.env 2 = .one (.ptr 2 1 0 0) ∧ s.env 3 = .one (.ptr 3 1 0 0) ∧ s.S 2 = some (.box 26 [.st (.int .i64 t.kind), .st (.int .i64 t.idx), .st (.list (t.subs.map encL))]) ∧ s.S 3 = some (.box 26 [.st (.int .i64 t.kind), .st (.int .i64 t.idx), .st (.list (t.subs.map encL))]) ∧ s.env 5 = aInt k) t.subs.length ⟨0, Nat.zero_le _, rfl, rfl, rfl, rfl, rfl, rfl⟩ ?_
  rintro n ⟨env, S⟩ ⟨k, hk', rfl, e2, e3, s2, s3, e5⟩
  simp only at e2 e3 s2 s3 e5
  by_cases hlt : (k : Int) < t.subs.length
  · obtain ⟨a, ha⟩ := get_lt (show k < t.subs.length by omega)
    repeat' (first | (with_reducible first | refine W ?_ | refine Wz0 ?_) | refine Cg _ (ih _ (Lm.lt_of_sub (mem_of_get ha)) a rfl) ?_ | ((with_reducible first | refine Wo (fun K hK => ?_) | refine Wp ?_ | refine Wq ?_ | refine Wr ?_); (try simp only [go_sem, fN, seval, eT, iR, e2, e3, s2, s3, e5, ha, hlt, dT, dF, nL]); (repeat with_reducible refine Ai ?_); (try (refine hK _ ?_; clear hK K)); (try with_reducible refine iC ?_)))
    refine then_normal ⟨t.subs.length - (k + 1), by omega, k + 1, by omega, rfl, ?_⟩
    simp only [go_sem, fN, seval, eT, iR, e2, e3, s2, s3, e5]
    congr 3
  · repeat' (first | (with_reducible first | refine W ?_ | refine Wz0 ?_) | ((with_reducible first | refine Wo (fun K hK => ?_) | refine Wp ?_ | refine Wq ?_ | refine Wr ?_); (try simp only [go_sem, fN, seval, eT, iR, e2, e3, s2, s3, e5, hlt, dT, dF, nL]); (repeat with_reducible refine Ai ?_); (try (refine hK _ ?_; clear hK K)); (try with_reducible refine iC ?_)))
    simp only [go_sem, fN, seval, FinQ, AS.result, resAll, resOne, tupV]



def aErr : AV := .one (.st .err)
def aNilI : AV := .one (.st (.lit .nilIface))
theorem tup2 {σ : Sto} {a b : Value} {x y : AV} (ha : VRep σ noS noH a x) (hb : VRep σ noS noH b y) : VRep σ noS noH (.tuple #[a, b]) (.tup [x, y]) :=
  .tup (fun j => if j = 0 then a else b) rfl (fun j u hj => by
    match j, hj with
    | 0, _ => rfl
    | 1, _ => rfl
    | j + 2, hj => simp at hj) (fun j u hj => by
    match j, hj with
    | 0, hj => cases hj; exact ha
    | 1, hj => cases hj; exact hb
    | j + 2, hj => simp at hj)
theorem one_arg {σ : Sto} {vs : List Value} {x : AV} (h : All2 (VRep σ noS noH) vs [x]) : ∃ v, vs = [v] ∧ VRep σ noS noH v x := by
  cases h with
  | cons h1 h2 =>
    cases h2
    exact ⟨_, rfl, h1⟩
theorem atoi_a (s : ByteArray) (n : Int) (hz : s.size ≤ 18) (h : Lib.atoi s.data.toList = some n) : ACalls Tryd.prog 42 [aStr s] (.tup [aInt n, aNilI]) := by
  intro σ w vs hG hF hv
  obtain ⟨v, rfl, h1⟩ := one_arg hv
  obtain ⟨rfl, _⟩ := vrep_str h1
  refine (Any.strconv_Atoi Tryd.lays172 s n hz h w).mono fun e w' ⟨he, t, hw⟩ => ?_
  have hb : Below w.heap.size w w' := by
    rw [hw]
    exact Lib.bytesWorld_below _ _ _
  have hr := atoi_range hz h
  exact ⟨_, σ, he, tup2 (.one (.st (.int (by rw [inR_i64]; exact hr)))) (.one (.st (.lit rfl))), hF.below hb, Ext.refl _ _, hb⟩
theorem atoi_no (s : ByteArray) (hz : s.size ≤ 18) (h : Lib.atoi s.data.toList = none) : ACalls Tryd.prog 42 [aStr s] (.tup [aInt 0, aErr]) := by
  intro σ w vs hG hF hv
  obtain ⟨v, rfl, h1⟩ := one_arg hv
  obtain ⟨rfl, _⟩ := vrep_str h1
  obtain ⟨ev, h2, h3⟩ := hG.cell hF (g := 1) (a := .err) (by kernel_rfl)
  obtain ⟨te, pe, rfl⟩ : ∃ te pe, ev = .iface te pe := by
    cases h3
    exact ⟨_, _, rfl⟩
  refine (Any.strconv_Atoi_err Tryd.laysC172 s hz h _ w h2 (Or.inr ⟨te, pe, rfl⟩)).mono fun e w' ⟨N, he, _, _, hb⟩ => ?_
  exact ⟨_, σ, he, tup2 (.one (.st (.int (by rw [inR_i64]; omega)))) (.one (.st .err)), hF.below hb, Ext.refl _ _, hb⟩
theorem itoaAll_a (n : Int) : ACalls Tryd.prog 39 [aInt n] (aStr ⟨(Lib.itoa n).toArray⟩) := by
  intro σ w vs hG hF hv
  obtain ⟨v, rfl, h1⟩ := one_arg hv
  obtain ⟨rfl, hn⟩ := vrep_int h1
  rw [inR_i64] at hn
  have ht : Lib.TabIs Tryd.prog w "internal/strconv.uint64pow10" .u64 Lib.pow10Tab := hG.ints hF (g := 3) (by kernel_rfl) (by kernel_rfl)
  refine (Any.strconv_Itoa Tryd.laysM171 n hn.1 hn.2 w ht).mono fun e w' ⟨he, k, os, hw⟩ => ?_
  have hb : Below w.heap.size w w' := by
    rw [hw]
    exact Lib.below_grow _ _ (Nat.le_refl _) _ _
  refine ⟨_, σ, he, .one (.st (.str ?_)), hF.below hb, Ext.refl _ _, hb⟩
  have hl := Lib.itoa_length_le n hn.1 hn.2
  have hs : (⟨(Lib.itoa n).toArray⟩ : ByteArray).size = (Lib.itoa n).length := by simp [ByteArray.size]
  rw [hs, maxLen_eq]
  omega

def ir_lambda_A : IR :=
  (.seq (.ops [.i 2 (.box 26 (.t 0)), .i 3 (.box 26 (.t 1)), .i 4 (.alloc 26 [.st (.int .i64 0), .st (.int .i64 0), .full []])]) (.seq (.ops [.L 5 3 2, .L 6 3 3, .i 7 (.buildSlice false 26 3 [.t 5, .t 6]), .i 8 (.build [.st (.int .i64 0), .st (.int .i64 0), .full []] [(0, 1, .n 3), (2, 1, .t 7)]), .s 3 4 8]) .ret))
theorem ok_lambda_A : OkF Tryd.prog 32 9 [] ir_lambda_A [.cell 4 true 3] := .of Tryd.func32 rfl rfl (by kernel_rfl) rfl
def ir_lambda_L : IR :=
  (.seq (.ops [.i 1 (.box 26 (.t 0)), .i 2 (.alloc 26 [.st (.int .i64 0), .st (.int .i64 0), .full []])]) (.seq (.ops [.L 3 3 1, .i 4 (.buildSlice false 26 3 [.t 3]), .i 5 (.build [.st (.int .i64 0), .st (.int .i64 0), .full []] [(0, 1, .n 2), (2, 1, .t 4)]), .s 3 2 5]) .ret))
theorem ok_lambda_L : OkF Tryd.prog 30 6 [] ir_lambda_L [.cell 2 true 3] := .of Tryd.func30 rfl rfl (by kernel_rfl) rfl
def ir_R_App : IR :=
  (.seq (.ops [.i 2 (.box 26 (.t 0)), .i 3 (.box 26 (.t 1)), .i 4 (.alloc 26 [.st (.int .i64 0), .st (.int .i64 0), .full []])]) (.seq (.ops [.L 5 3 2, .L 6 3 3, .i 7 (.buildSlice false 26 3 [.t 5, .t 6]), .i 8 (.build [.st (.int .i64 0), .st (.int .i64 0), .full []] [(0, 1, .n 3), (2, 1, .t 7)]), .s 3 4 8]) .ret))
theorem ok_R_App : OkF Tryd.prog 20 9 [] ir_R_App [.cell 4 true 3] := .of Tryd.func20 rfl rfl (by kernel_rfl) rfl
def ir_R_Fun : IR :=
  (.seq (.ops [.i 1 (.box 26 (.t 0)), .i 2 (.alloc 26 [.st (.int .i64 0), .st (.int .i64 0), .full []])]) (.seq (.ops [.L 3 3 1, .i 4 (.buildSlice false 26 3 [.t 3]), .i 5 (.build [.st (.int .i64 0), .st (.int .i64 0), .full []] [(0, 1, .n 2), (2, 1, .t 4)]), .s 3 2 5]) .ret))
theorem ok_R_Fun : OkF Tryd.prog 17 6 [] ir_R_Fun [.cell 2 true 3] := .of Tryd.func17 rfl rfl (by kernel_rfl) rfl

theorem lA_a (f x : Lm) : ACalls Tryd.prog 32 [aLm f, aLm x] (aLm (Lm.a f x)) := by
  refine ok_lambda_A.ac fun C hC => ?_
  unfold ir_lambda_A
  repeat' (first | (with_reducible first | refine W ?_ | refine Wz0 ?_) | ((with_reducible first | refine Wo (fun K hK => ?_) | refine Wp ?_ | refine Wq ?_ | refine Wr ?_); (try simp only [go_sem, fN, seval, eT, iR, dT, dF, nL]); (repeat with_reducible refine Ai ?_); (try (refine hK _ ?_; clear hK K)); (try with_reducible refine iC ?_)))
  simp only [go_sem, fN, seval, FinQ, AS.result, resAll, resOne, tupV]
  simp [Lm.a, Lm.kind_mk, Lm.idx_mk, Lm.subs_mk, encL_eq]
theorem lApp_a (f x : Lm) : ACalls Tryd.prog 20 [aLm f, aLm x] (aLm (Lm.a f x)) := by
  refine ok_R_App.ac fun C hC => ?_
  unfold ir_R_App
  repeat' (first | (with_reducible first | refine W ?_ | refine Wz0 ?_) | ((with_reducible first | refine Wo (fun K hK => ?_) | refine Wp ?_ | refine Wq ?_ | refine Wr ?_); (try simp only [go_sem, fN, seval, eT, iR, dT, dF, nL]); (repeat with_reducible refine Ai ?_); (try (refine hK _ ?_; clear hK K)); (try with_reducible refine iC ?_)))
  simp only [go_sem, fN, seval, FinQ, AS.result, resAll, resOne, tupV]
  simp [Lm.a, Lm.kind_mk, Lm.idx_mk, Lm.subs_mk, encL_eq]
theorem lL_a (t : Lm) : ACalls Tryd.prog 30 [aLm t] (aLm (Lm.l t)) := by
  refine ok_lambda_L.ac fun C hC => ?_
  unfold ir_lambda_L
  repeat' (first | (with_reducible first | refine W ?_ | refine Wz0 ?_) | ((with_reducible first | refine Wo (fun K hK => ?_) | refine Wp ?_ | refine Wq ?_ | refine Wr ?_); (try simp only [go_sem, fN, seval, eT, iR, dT, dF, nL]); (repeat with_reducible refine Ai ?_); (try (refine hK _ ?_; clear hK K)); (try with_reducible refine iC ?_)))
  simp only [go_sem, fN, seval, FinQ, AS.result, resAll, resOne, tupV]
  simp [Lm.l, Lm.kind_mk, Lm.idx_mk, Lm.subs_mk, encL_eq]
theorem lFun_a (t : Lm) : ACalls Tryd.prog 17 [aLm t] (aLm (Lm.l t)) := by
  refine ok_R_Fun.ac fun C hC => ?_
  unfold ir_R_Fun
  repeat' (first | (with_reducible first | refine W ?_ | refine Wz0 ?_) | ((with_reducible first | refine Wo (fun K hK => ?_) | refine Wp ?_ | refine Wq ?_ | refine Wr ?_); (try simp only [go_sem, fN, seval, eT, iR, dT, dF, nL]); (repeat with_reducible refine Ai ?_); (try (refine hK _ ?_; clear hK K)); (try with_reducible refine iC ?_)))
  simp only [go_sem, fN, seval, FinQ, AS.result, resAll, resOne, tupV]
  simp [Lm.l, Lm.kind_mk, Lm.idx_mk, Lm.subs_mk, encL_eq]

theorem hi_ne {b c : Nat} (hb : 1000 ≤ b) (hc : c < 1000) : (b = c) = False := eq_false (by omega)
theorem lo_ne {b c : Nat} (hb : 1000 ≤ b) (hc : c < 1000) : (c = b) = False := eq_false (by omega)
abbrev rowL (xs : List ByteArray) : ABlk := .mrow 9 1 (xs.map encS)
abbrev boxV (i : Int) : ABlk := .box 26 [.st (.int .i64 1), .st (.int .i64 i), .st (.list [])]
def ir_pieceLoop2 : IR := (.rangeF (.t 33) [34, 35] (.seq (.ops [.m 5 34]) (.ops [.m 6 35])) (.block 1 (.seq (.ops [.m 36 6, .l 37 4, .i 38 (.bin .eql (.t 36) (.t 37))]) (.cond (.t 38) (.seq (.ops [.l 39 1, .i 40 (.nilCheck (.t 39)), .f 41 1 40, .l 42 41, .i 43 (.len false (.t 42)), .i 44 (.bin .sub (.t 43) (.n 1)), .m 45 5, .i 46 (.bin .sub (.t 44) (.t 45)), .i 47 (.call 41 [.t 46]), .s 3 2 47]) .ret) .skip))))
set_option maxRecDepth 100000 in
theorem pieceLoop2 {C : Ctx} {Q : AX → AS → Prop} (htop : C.Top) (hC : C.n = 75) (names : List ByteArray) (hl : names.length ≤ 1000000) (nm : ByteArray) (b id : Nat) (hb : 1000 ≤ b) (u : ByteArray) (l : Int) (ty : TypeId) (env : Nat → AV) (S : AStore)
    (v1 : env 1 = .one (.ptr 1 1 0 0)) (v2 : env 2 = .one (.ptr 2 1 0 0)) (v4 : env 4 = .one (.ptr 4 1 0 0)) (v33 : env 33 = .one (.fn 46 [.ptr 900 1 0 0])) {e1 : TypeId} (s1 : S 1 = some (.box e1 [.ptr b 1 0 0])) {cs : List AC} (hcs : cs.length = 3) (s2 : S 2 = some (.box 26 cs)) (s4 : S 4 = some (.box 9 [.st (.str nm)])) (s900 : S 900 = some (.box ty [.row id names.length])) (sid : S id = some (rowL names)) (sb : S b = some (boxL u (.row id names.length) l)) (s901 : S 901 = none)
    (hdone : boundAt names nm = none → Q .normal ⟨env, updE S 901 (some (.dead 1 0))⟩) (hret : ∀ k : Nat, boundAt names nm = some k → Q .ret ⟨env, updE (updE S 2 (some (boxV ((names.length : Int) - 1 - k)))) 901 (some (.dead 1 0))⟩) : IWP Tryd.prog C [10, 21, 23, 26, 28, 33] ir_pieceLoop2 Q ⟨env, S⟩ := by
  unfold ir_pieceLoop2
  refine IWP.rangeF htop 901 (by decide) s901 (show AS.ev _ (.t 33) = _ from v33) (by kernel_rfl) (back_iterM names (by omega) (up1 900) (up1 id) ty 9 (up1_le _) (up1_le _)) (fun _ => rfl) (fun pre U => U = upS S ∧ ∀ i ∈ pre, names.getD i .empty ≠ nm) (fun ex U => ex = .ret ∧ ∃ k : Nat, boundAt names nm = some k ∧ U = updE (upS S) 1002 (some (boxV ((names.length : Int) - 1 - k)))) ⟨rfl, by simp⟩ ?_ ?_ ?_ ?_
  · rintro pre U b ⟨rfl, _⟩ hU
    have n1 : up1 900 ≠ up1 901 := by decide
    have n2 : up1 id ≠ up1 901 := fun h => by
      have : id = 901 := by unfold up1 at h; omega
      subst this
      rw [sid] at s901
      cases s901
    rw [updE_ne _ n1, updE_ne _ n2, upS_up, upS_up, s900, sid]
    exact ⟨rfl, rfl⟩
  · rintro C' b0 b1 pre v U hC' hpre ⟨rfl, hI⟩ hU hcl hb1
    have t1 : upS S 1001 = some (.box e1 [.ptr (up1 b) 1 0 0]) := upS_some s1
    have t2 : upS S 1002 = some (.box 26 (cs.map (AC.ren up1))) := by
      have := upS_some (S := S) (i := 2) s2
      rw [show up1 2 = 1002 from rfl] at this
      rw [this]
      show some (ABlk.box _ (AC.rens up1 cs)) = _
      rw [AC.rens_eq]
    have t4 : upS S 1004 = some (.box 9 [.st (.str nm)]) := upS_some s4
    have tb : upS S (up1 b) = some (boxL u (.row (up1 id) names.length) l) := upS_some sb
    have ti : upS S (up1 id) = some (rowL names) := upS_some sid
    have w1 : upEnv C.n env 1 = .one (.ptr 1001 1 0 0) := by rw [upEnv, if_pos (by omega), v1]; rfl
    have w2 : upEnv C.n env 2 = .one (.ptr 1002 1 0 0) := by rw [upEnv, if_pos (by omega), v2]; rfl
    have w4 : upEnv C.n env 4 = .one (.ptr 1004 1 0 0) := by rw [upEnv, if_pos (by omega), v4]; rfl
    have u901 : up1 901 = 1901 := rfl
    have n2b : ¬ 1901 = up1 b := by unfold up1; omega
    have n2i : ¬ 1901 = up1 id := fun h => by
      have : id = 901 := by unfold up1 at h; omega
      subst this
      rw [sid] at s901
      cases s901
    have n3b : ¬ up1 b = 1901 := fun h => n2b h.symm
    have n3i : ¬ up1 id = 1901 := fun h => n2i h.symm
    have hll : (names.map encS).length = names.length := by simp
    obtain ⟨tl, htl⟩ := hpre
    have hdn : downTo names.length 0 = (List.range names.length).reverse := by unfold downTo; rw [List.range_eq_range']; rfl
    have hrev : (List.range names.length) = tl.reverse ++ [v] ++ pre.reverse := by
      have := congrArg List.reverse htl
      rw [hdn, List.reverse_reverse] at this
      rw [← this]
      simp
    have v0 : v < names.length := by
      have : v ∈ List.range names.length := by rw [hrev]; simp
      simpa using this
    have hpos : ∀ j, v < j → j < names.length → j ∈ pre := fun j h1 h2 => by
      have hlen := congrArg List.length hrev
      simp at hlen
      have hv : (List.range names.length)[tl.length]? = some v := by rw [hrev]; simp
      have hv' : tl.length = v := by
        rw [List.getElem?_range (by omega)] at hv
        injection hv
      have hj : (List.range names.length)[j]? = some j := by rw [List.getElem?_range h2]
      rw [hrev, List.append_assoc, List.getElem?_append_right (by simp; omega), List.getElem?_append_right (by simp; omega)] at hj
      have := List.mem_of_getElem? hj
      simpa using this
    have hget : names[v]? = some (names.getD v .empty) := by simp [List.getD, List.getElem?_eq_getElem v0]
    have hgd : ∀ x, names.getD v .empty = x → names.getD v .empty = x := fun _ h => h
    generalize hx0 : names.getD v .empty = x at hget
    repeat' (first | (with_reducible first | refine W ?_ | refine Wz0 ?_) | ((with_reducible first | refine Wo (fun K hK => ?_) | refine Wp ?_ | refine Wq ?_ | refine Wr ?_); (try simp only [go_sem, fN, seval, eT, iR, setPs, w4, t4, dT, dF, nL]); (repeat with_reducible refine Ai ?_); (try (refine hK _ ?_; clear hK K)); (try with_reducible refine iC ?_)))
    refine then_normal ⟨show updE (upS S) (up1 901) (some b0) (up1 901) = _ from updE_same _ _ _, ?_⟩
    have hhigh : Clean (updE (upS S) (up1 901) (some b1)) := clean_upd hcl (up1_le _) hb1
    by_cases hx : x = nm
    · have hbd : boundAt names nm = some v := backF_some (by rw [decide_eq_true_eq, hx0, hx]) v0 fun j h1 h2 => by
        rw [decide_eq_true_eq]
        exact hI j (hpos j h1 h2)
      repeat' (first | (with_reducible first | refine W ?_ | refine Wz0 ?_) | refine Cg _ (lV_a ((names.length : Int) - 1 - v)) ?_ | ((with_reducible first | refine Wo (fun K hK => ?_) | refine Wp ?_ | refine Wq ?_ | refine Wr ?_); (try simp only [go_sem, fN, seval, eT, iR, w1, w2, w4, t1, t2, t4, tb, ti, n2b, n2i, n3b, n3i, hll, u901, hx, hcs, AS.set, dT, dF, nL]); (repeat with_reducible refine Ai ?_); (try (refine hK _ ?_; clear hK K)); (try with_reducible refine iC ?_)))
      have hd : List.drop 3 (List.map (AC.ren up1) cs) = [] := List.drop_eq_nil_of_le (by simp [hcs])
      rw [hd]
      refine ⟨_, updE (upS S) 1002 (some (boxV ((names.length : Int) - 1 - v))), Ghost.refl _ _, ?_, ?_, ?_, rfl, v, hbd, rfl⟩
      · show updE (updE (updE (upS S) 1901 (some b0)) 1901 (some b1)) 1002 _ = _
        rw [updE_over, updE_swap (by decide)]
      · show Clean (updE (updE (updE (upS S) 1901 (some b0)) 1901 (some b1)) 1002 _)
        rw [updE_over]
        exact clean_upd hhigh (by decide) rfl
      · rw [updE_ne _ (by decide)]
        exact hU
    · repeat' (first | (with_reducible first | refine W ?_ | refine Wz0 ?_) | ((with_reducible first | refine Wo (fun K hK => ?_) | refine Wp ?_ | refine Wq ?_ | refine Wr ?_); (try simp only [go_sem, fN, seval, eT, iR, w4, t4, u901, hx, AS.set, dT, dF, nL]); (repeat with_reducible refine Ai ?_); (try (refine hK _ ?_; clear hK K)); (try with_reducible refine iC ?_)))
      refine ⟨_, upS S, Ghost.refl _ _, by simp only [AS.set, updE_over, u901], by simpa only [AS.set, updE_over, u901] using hhigh, by rw [← u901]; exact hU, rfl, fun i hi => ?_⟩
      rcases List.mem_append.1 hi with hi | hi
      · exact hI i hi
      · rw [List.mem_singleton.1 hi, hx0]
        exact hx
  · rintro U ⟨rfl, h⟩
    rw [dn_upS]
    refine hdone (backF_none fun j hj => ?_)
    rw [decide_eq_true_eq]
    exact h j (by simp [downTo]; exact hj)
  · rintro ex U ⟨rfl, k, hk, rfl⟩
    rw [show (1002 : Nat) = up1 2 from rfl, dnS_upd, dn_upS]
    exact hret k hk

theorem lend_tail (s : ByteArray) (i : Nat) : ∀ k j : Nat, i + j + k ≤ s.size → lend (tailS s i) k j + i = lend s k (i + j)
  | 0, j, _ => by rw [lend, lend]; omega
  | k + 1, j, h => by
    rw [lend, lend]
    have hb : byteAt (tailS s i) j = byteAt s (i + j) := byteN_tail (by omega)
    rw [hb]
    by_cases hl : letterI (byteAt s (i + j)) = true
    · rw [if_pos hl, if_pos hl, lend_tail s i k (j + 1) (by omega)]
      rfl
    · rw [if_neg hl, if_neg hl]
      omega
theorem lendA_tail {s : ByteArray} {i : Nat} (hi : i ≤ s.size) : lendA (tailS s i) 0 = lendA s i - i := by
  have h := lend_tail s i (s.size - i) 0 (by omega)
  unfold lendA
  rw [tail_size, Nat.sub_zero]
  rw [Nat.add_zero] at h
  omega
theorem nm_tail {s : ByteArray} {i : Nat} (hi : i ≤ s.size) : (tailS s i).extract 0 (lendA (tailS s i) 0) = nmAt s i := by
  obtain ⟨l1, l2⟩ := lendA_le hi
  rw [lendA_tail hi, tail_take (by omega)]
  unfold nmAt
  congr 1
  omega
theorem rest_tail {s : ByteArray} {i : Nat} (hi : i ≤ s.size) : (tailS s i).extract (lendA (tailS s i) 0) (tailS s i).size = tailS s (lendA s i) := by
  obtain ⟨l1, l2⟩ := lendA_le hi
  rw [lendA_tail hi, tail_drop (by omega)]
  congr 1
  omega
theorem ltail_nil {s : ByteArray} {i : Nat} (hi : i ≤ s.size) : tailS s i = ⟨#[]⟩ ↔ i = s.size := by
  constructor
  · intro h
    have := tail_size s i
    rw [h] at this
    have h0 : (⟨#[]⟩ : ByteArray).size = 0 := rfl
    omega
  · intro h
    have := tail_size s i
    exact ByteArray.size_eq_zero_iff.1 (by omega)
theorem ahead_tail (s : ByteArray) (i : Nat) : aheadL (tailS s i) = if i < s.size then byteAt s i else 0 := by
  unfold aheadL
  rw [tail_size]
  by_cases h : i < s.size
  · rw [if_neg (by omega), if_pos h, byteN_tail (by omega), Nat.add_zero]
  · rw [if_pos (by omega), if_neg h]
theorem ahead_yes {s : ByteArray} {i : Nat} {c : Int} (h : i < s.size ∧ byteAt s i = c) : aheadL (tailS s i) = c := by
  rw [ahead_tail, if_pos h.1, h.2]
theorem ahead_no {s : ByteArray} {i : Nat} {c : Int} (hc : c ≠ 0) (h : ¬ (i < s.size ∧ byteAt s i = c)) : ¬ aheadL (tailS s i) = c := by
  rw [ahead_tail]
  by_cases h1 : i < s.size
  · rw [if_pos h1]
    exact fun e => h ⟨h1, e⟩
  · rw [if_neg h1]
    exact fun e => hc e.symm
section
variable {s : ByteArray} {nm : AC} {l : Int} {b at_ : Nat} {S : AStore}
theorem lnext_at (hb : 1000 ≤ b) (sb : S b = some (boxL (tailS s at_) nm l)) : ACallsS Tryd.prog 26 [.one (.ptr b 1 0 0)] S (.one (.st (.int .u8 (aheadL (tailS s at_))))) S := lnext_S hb sb
theorem lname_at (hs : s.size ≤ 100000) (hat : at_ ≤ s.size) (hb : 1000 ≤ b) (hnm : nm.high = true) (sb : S b = some (boxL (tailS s at_) nm l)) (h : nmErr s at_ = 0) : ACallsS Tryd.prog 28 [.one (.ptr b 1 0 0)] S (aStr (nmAt s at_)) (updE S b (some (boxL (tailS s (lendA s at_)) nm l))) := by
  have hz := tail_size s at_
  obtain ⟨n1, n2⟩ := (nmErr_ok hat).2.2.2 h
  have := lname_S (u := tailS s at_) (by omega) hb hnm sb (by rw [lendA_tail hat]; omega) (by rw [nm_tail hat]; exact n2)
  rw [nm_tail hat, rest_tail hat] at this
  exact this
theorem lname_pan (hs : s.size ≤ 100000) (hat : at_ ≤ s.size) (hb : 1000 ≤ b) (sb : S b = some (boxL (tailS s at_) nm l)) (h : ¬ nmErr s at_ = 0) : APan Tryd.prog 28 [.one (.ptr b 1 0 0)] S (lfault (nmErr s at_)) (updE S b (some (.dead 1 0))) := by
  have hz := tail_size s at_
  obtain ⟨l1, l2⟩ := lendA_le hat
  refine lname_P (u := tailS s at_) _ (by omega) hb sb ?_
  rw [nm_tail hat, lendA_tail hat]
  unfold nmErr at h ⊢
  by_cases h0 : lendA s at_ = at_
  · rw [if_pos h0] at h ⊢
    by_cases h1 : at_ = s.size
    · rw [if_pos h1]
      exact .inl ⟨by omega, (ltail_nil hat).2 h1, rfl⟩
    · rw [if_neg h1]
      exact .inr (.inl ⟨by omega, fun e => h1 ((ltail_nil hat).1 e), rfl⟩)
  · rw [if_neg h0] at h ⊢
    by_cases h1 : nameOk (nmAt s at_) = true
    · rw [if_pos h1] at h
      exact absurd rfl h
    · rw [if_neg h1]
      exact .inr (.inr ⟨by omega, h1, rfl⟩)
theorem lsign_at {c : Int} (hat : at_ ≤ s.size) (hb : 1000 ≤ b) (hnm : nm.high = true) (sb : S b = some (boxL (tailS s at_) nm l)) (h : wantE s c at_ = 0) : ACallsS Tryd.prog 29 [.one (.ptr b 1 0 0), .one (.st (.int .u8 c))] S (.tup []) (updE S b (some (boxL (tailS s (at_ + 1)) nm l))) := by
  obtain ⟨h1, h2⟩ := (wantE_ok hat).2 h
  have hz := tail_size s at_
  have := lsign_S (u := tailS s at_) c hb hnm sb (by omega) (by rw [byteN_tail (by omega)]; exact h2)
  rw [tail_drop (by omega)] at this
  exact this
theorem lsign_pan {c : Int} (hat : at_ ≤ s.size) (hb : 1000 ≤ b) (sb : S b = some (boxL (tailS s at_) nm l)) (h : ¬ wantE s c at_ = 0) : APan Tryd.prog 29 [.one (.ptr b 1 0 0), .one (.st (.int .u8 c))] S (lfault (wantE s c at_)) (updE S b (some (.dead 1 0))) := by
  have hz := tail_size s at_
  unfold wantE at h ⊢
  by_cases h0 : at_ = s.size
  · rw [if_pos h0]
    exact lsign_P1 (u := tailS s at_) c hb sb ((ltail_nil hat).2 h0)
  · rw [if_neg h0] at h ⊢
    by_cases h1 : byteAt s at_ = c
    · rw [if_pos h1] at h
      exact absurd rfl h
    · rw [if_neg h1]
      exact lsign_P2 (u := tailS s at_) c hb sb (by omega) (by rw [byteN_tail (by omega)]; exact h1)
end
theorem up_boxL {S : AStore} {b i n : Nat} {u : ByteArray} {l : Int} (h : S b = some (boxL u (.row i n) l)) : upS S (up1 b) = some (boxL u (.row (up1 i) n) l) := upS_some h
theorem up_rowL {S : AStore} {i : Nat} {ns : List ByteArray} (h : S i = some (rowL ns)) : upS S (up1 i) = some (rowL ns) := upS_some h
theorem up_none {S : AStore} {i : Nat} (h : S i = none) : upS S (up1 i) = none := by rw [upS_up, h]; rfl
def ldone (S : AStore) (b i ni N : Nat) (ns : List ByteArray) (u : ByteArray) (l : Int) : AStore := updE (updE (updE S i (some (.dead N 1))) ni (some (rowL ns))) b (some (boxL u (.row ni ns.length) l))
def lfail (S : AStore) (b i N : Nat) : AStore := updE (updE S i (some (.dead N 1))) b (some (.dead 1 0))
theorem dn_ldone {S : AStore} {b i ni N : Nat} {ns : List ByteArray} {u : ByteArray} {l : Int} : dnS (ldone (upS S) (up1 b) (up1 i) (up1 ni) N ns u l) = ldone S b i ni N ns u l := by
  unfold ldone
  rw [dnS_upd, dnS_upd, dnS_upd, dn_upS]
  show updE _ b (some (ABlk.box _ [_, AC.row (dn1 (up1 ni)) _, _])) = _
  rw [dn_up]
  rfl
theorem dn_lfail {S : AStore} {b i N : Nat} : dnS (lfail (upS S) (up1 b) (up1 i) N) = lfail S b i N := by
  unfold lfail
  rw [dnS_upd, dnS_upd, dn_upS]
  rfl
def LEnd (t : Lm) (S' : AStore) (x : AS) : Prop := ∃ r0, (resAll x [RV.cell 2 true 3]).map tupV = some r0 ∧ outV x.S r0 = some (aLm t) ∧ ∀ i, 1000 ≤ i → x.S i = S' i
def LRS (f : Nat) (q : LRd) (S S1 S2 : AStore) (b : Nat) : Prop :=
  (q.e = 0 → ACallsS Tryd.prog f [.one (.ptr b 1 0 0)] S (aLm q.t) S1) ∧ (q.e ≠ 0 → APan Tryd.prog f [.one (.ptr b 1 0 0)] S (lfault q.e) S2)
theorem lrs_of {f n : Nat} {mu : List Nat} {x : IR} (o : OkF Tryd.prog f n mu x [.cell 2 true 3]) (hn : 1 ≤ n) {q : LRd} {S S1 S2 : AStore} {b : Nat} (h1 : Clean S → Clean S1) (h2 : Clean S → Clean S2)
    (h : Clean S → ∀ (C : Ctx) (Q : AX → AS → Prop), C.n = n → C.Top → (q.e = 0 → ∀ x y, Ghost C x y → LEnd q.t S1 y → Q .ret x) → (q.e ≠ 0 → ∀ x y, Ghost C x y → (∀ i, 1000 ≤ i → y.S i = S2 i) → Q (.pan (lfault q.e)) x) → IWP Tryd.prog C mu x Q (AS.startS [.one (.ptr b 1 0 0)] S)) : LRS f q S S1 S2 b := by
  refine ⟨fun he => ?_, fun he => ?_⟩
  · refine o.acST (fun hS C hC ht => h hS C _ hC ht (fun _ x y hg hx => ?_) (fun hne => absurd he hne)) hn
    obtain ⟨r0, q1, q2, q3⟩ := hx
    exact finS_ghost hg (finS_same r0 (h1 hS) trivial q1 q2 q3)
  · refine o.acPT (fun hS C hC ht => h hS C _ hC ht (fun h0 => absurd h0 he) (fun _ x y hg hx => ?_)) hn
    have hc := h2 hS
    refine ⟨rfl, _, hg.trans (Ghost.low fun i c hi hc' => ?_), ?_, hc⟩
    · rw [hx i hi] at hc'
      exact (hc i c hc').2
    · funext i
      show (if i < 1000 then none else y.S i) = _
      split
      · exact (clean_none hc (by omega)).symm
      · exact hx i (by omega)
theorem clean_ldone {S : AStore} {b i ni N : Nat} {ns : List ByteArray} {u : ByteArray} {l : Int} (hb : 1000 ≤ b) (hi : 1000 ≤ i) (hn : 1000 ≤ ni) (hS : Clean S) : Clean (ldone S b i ni N ns u l) :=
  clean_upd (clean_upd (clean_upd hS hi rfl) hn rfl) hb (boxL_high (high_row hn))
theorem clean_lfail {S : AStore} {b i N : Nat} (hb : 1000 ≤ b) (hi : 1000 ≤ i) (hS : Clean S) : Clean (lfail S b i N) := clean_upd (clean_upd hS hi rfl) hb rfl
theorem lpanEnd {C : Ctx} {x : AS} {S : AStore} {b i N : Nat} (hne : b ≠ i) (h1 : (∃ ty xs, x.S b = some (.box ty xs)) ∨ x.S b = some (.dead 1 0)) (h2 : (∃ xs, x.S i = some (rowL xs) ∧ xs.length < N) ∨ x.S i = some (.dead N 1)) (h3 : ∀ j, 1000 ≤ j → j ≠ b → j ≠ i → x.S j = S j) : ∃ y, Ghost C x y ∧ ∀ j, 1000 ≤ j → y.S j = lfail S b i N j := by
  obtain ⟨y, hg, hy1, hy2⟩ : ∃ y : AS, Ghost C x y ∧ y.S b = some (.dead 1 0) ∧ ∀ j, j ≠ b → y.S j = x.S j := by
    rcases h1 with ⟨ty, xs, h1⟩ | h1
    · exact ⟨_, Ghost.kill b h1, updE_same _ _ _, fun j hj => updE_ne _ hj _⟩
    · exact ⟨x, Ghost.refl _ _, h1, fun _ _ => rfl⟩
  obtain ⟨z, hg2, hz1, hz2⟩ : ∃ z : AS, Ghost C y z ∧ z.S i = some (.dead N 1) ∧ ∀ j, j ≠ i → z.S j = y.S j := by
    have hyi := hy2 i (fun e => hne e.symm)
    rcases h2 with ⟨xs, h2, hl⟩ | h2
    · exact ⟨_, Ghost.bury i N 1 (hyi.trans h2) ⟨by simpa using hl, rfl⟩, updE_same _ _ _, fun j hj => updE_ne _ hj _⟩
    · exact ⟨y, Ghost.refl _ _, hyi.trans h2, fun _ _ => rfl⟩
  refine ⟨z, hg.trans hg2, fun j hj => ?_⟩
  unfold lfail
  by_cases e1 : j = b
  · subst e1
    rw [hz2 _ hne, hy1, updE_same]
  · rw [updE_ne _ e1]
    by_cases e2 : j = i
    · subst e2
      rw [hz1, updE_same]
    · rw [updE_ne _ e2, hz2 _ e2, hy2 _ e1, h3 j hj e1 e2]
theorem pan_to {C : Ctx} {Q : AX → AS → Prop} {v : Value} {S : AStore} {b i N : Nat} (hne : ¬ b = i) (hpan : ∀ x y, Ghost C x y → (∀ j, 1000 ≤ j → y.S j = lfail S b i N j) → Q (.pan v) x) (x : AS) (h1 : (∃ ty xs, x.S b = some (.box ty xs)) ∨ x.S b = some (.dead 1 0)) (h2 : (∃ xs, x.S i = some (rowL xs) ∧ xs.length < N) ∨ x.S i = some (.dead N 1)) (h3 : ∀ j, 1000 ≤ j → j ≠ b → j ≠ i → x.S j = S j) : Q (.pan v) x := by
  obtain ⟨y, hg, hy⟩ := lpanEnd (C := C) hne h1 h2 h3
  exact hpan x y hg hy
theorem lnameEnd {C : Ctx} {x : AS} {S : AStore} {b i j ni N : Nat} {ns xs : List ByteArray} {u : ByteArray} {l : Int} {c : AC} (hb : x.S b = some (boxL u c l)) (hj : x.S j = some (rowL xs)) (hN : xs.length < N) (hc : c = .part j ns.length xs.length ∨ (c = .row j ns.length ∧ ns.length = xs.length)) (hx : xs.take ns.length = ns) (hni : x.S ni = none) (hbn : b ≠ ni) (h1000 : 1000 ≤ ni)
    (hi : (j = i) ∨ (j < 1000 ∧ x.S i = some (.dead N 1) ∧ i ≠ ni ∧ i ≠ b)) (h3 : ∀ j, 1000 ≤ j → j ≠ b → j ≠ i → x.S j = S j) : ∃ y : AS, y.env = x.env ∧ Ghost C x y ∧ (∀ k, k ≠ b → k ≠ ni → k ≠ j → y.S k = x.S k) ∧ ∀ k, 1000 ≤ k → y.S k = ldone S b i ni N ns u l k := by
  have hjb : b ≠ j := fun e => by subst e; rw [hb] at hj; cases hj
  have hjn : j ≠ ni := fun e => by subst e; rw [hj] at hni; cases hni
  have hg := Ghost.rebase (C := C) (s := x) b j ni 1 ns.length N (xs := xs.map encS) (by simpa using hN) hb hj hni (by
    rw [List.length_map]
    rcases hc with rfl | ⟨rfl, h⟩
    · exact .inl rfl
    · exact .inr ⟨rfl, h⟩)
  refine ⟨_, ?he, hg, fun k k1 k2 k3 => ?_, fun k hk => ?_⟩
  case he => rfl
  · show updE (updE (updE x.S j _) ni _) b _ k = _
    rw [updE_ne _ k1, updE_ne _ k2, updE_ne _ k3]
  show updE (updE (updE x.S j (some (.dead N 1))) ni (some (ABlk.mrow _ 1 ((xs.map encS).take ns.length)))) b (some (ABlk.box _ ([_, c, _].set 1 (.row ni ns.length)))) k = _
  rw [← List.map_take, hx]
  unfold ldone
  by_cases e1 : k = b
  · subst e1
    rw [updE_same, updE_same]
    rfl
  rw [updE_ne _ e1, updE_ne _ e1]
  by_cases e2 : k = ni
  · subst e2
    rw [updE_same, updE_same]
  rw [updE_ne _ e2, updE_ne _ e2]
  rcases hi with rfl | ⟨q1, q2, q3, q4⟩
  · by_cases e3 : k = j
    · subst e3
      rw [updE_same, updE_same]
    · rw [updE_ne _ e3, updE_ne _ e3, h3 k hk e1 e3]
  · rw [updE_ne _ (show k ≠ j by omega)]
    by_cases e3 : k = i
    · subst e3
      rw [updE_same, q2]
    · rw [updE_ne _ e3, h3 k hk e1 e3]
theorem lend_to {C : Ctx} {Q : AX → AS → Prop} {S : AStore} {b i ni N : Nat} {ns : List ByteArray} {u : ByteArray} {l : Int} {t : Lm} (hok : ∀ x y, Ghost C x y → LEnd t (ldone S b i ni N ns u l) y → Q .ret x) (x : AS) (j : Nat) (xs : List ByteArray) (c : AC) (h2 : x.env 2 = .one (.ptr 2 1 0 0)) (s2 : x.S 2 = some (.box 26 [.st (.int .i64 t.kind), .st (.int .i64 t.idx), .st (.list (t.subs.map encL))]))
    (hb : x.S b = some (boxL u c l)) (hj : x.S j = some (rowL xs)) (hN : xs.length < N) (hc : c = .part j ns.length xs.length ∨ (c = .row j ns.length ∧ ns.length = xs.length)) (hx : xs.take ns.length = ns) (hni : x.S ni = none) (hbn : b ≠ ni) (h1000 : 1000 ≤ ni) (hb1000 : 1000 ≤ b)
    (hi : (j = i) ∨ (j < 1000 ∧ x.S i = some (.dead N 1) ∧ i ≠ ni ∧ i ≠ b)) (h3 : ∀ j, 1000 ≤ j → j ≠ b → j ≠ i → x.S j = S j) : Q .ret x := by
  obtain ⟨y, y1, hg, y2, y3⟩ := lnameEnd (C := C) (S := S) (i := i) hb hj hN hc hx hni hbn h1000 hi h3
  have hj2 : 2 ≠ j := fun e => by subst e; rw [s2] at hj; cases hj
  have e2 := y2 2 (by omega) (by omega) hj2
  rw [s2] at e2
  refine hok x y hg ⟨aLm t, ?_, rfl, y3⟩
  rw [← y1] at h2
  simp [resAll, resOne, tupV, h2, e2, blkCells, pack]

def ir_lambda_C : IR :=
  (.seq (.ops [.i 2 (.alloc 26 [.st (.int .i64 0), .st (.int .i64 0), .full []])]) (.seq (.ops [.m 3 0, .i 4 (.build [.st (.int .i64 0), .st (.int .i64 0), .full []] [(0, 1, .n 4), (1, 1, .t 3)]), .s 3 2 4]) .ret))
theorem ok_lambda_C : OkF Tryd.prog 43 5 [] ir_lambda_C [.cell 2 true 3] := .of Tryd.func43 rfl rfl (by kernel_rfl) rfl

def ir_R_Con : IR :=
  (.seq (.ops [.i 2 (.alloc 26 [.st (.int .i64 0), .st (.int .i64 0), .full []])]) (.seq (.ops [.m 3 0, .i 4 (.build [.st (.int .i64 0), .st (.int .i64 0), .full []] [(0, 1, .n 4), (1, 1, .t 3)]), .s 3 2 4]) .ret))
theorem ok_R_Con : OkF Tryd.prog 19 5 [] ir_R_Con [.cell 2 true 3] := .of Tryd.func19 rfl rfl (by kernel_rfl) rfl

theorem lCon_a (i : Int) : ACalls Tryd.prog 19 [aInt i] (aLm (.mk 4 i [])) := by
  refine ok_R_Con.ac fun C hC => ?_
  unfold ir_R_Con
  repeat' (first | (with_reducible first | refine W ?_ | refine Wz0 ?_) | ((with_reducible first | refine Wo (fun K hK => ?_) | refine Wp ?_ | refine Wq ?_ | refine Wr ?_); (try simp only [go_sem, fN, seval, eT, iR, dT, dF, nL]); (repeat with_reducible refine Ai ?_); (try (refine hK _ ?_; clear hK K)); (try with_reducible refine iC ?_)))
  simp only [go_sem, fN, seval, FinQ, AS.result, resAll, resOne, tupV]
  simp [Lm.kind_mk, Lm.idx_mk, Lm.subs_mk, encL_eq]

theorem lC_a (i : Int) : ACalls Tryd.prog 43 [aInt i] (aLm (.mk 4 i [])) := by
  refine ok_lambda_C.ac fun C hC => ?_
  unfold ir_lambda_C
  repeat' (first | (with_reducible first | refine W ?_ | refine Wz0 ?_) | ((with_reducible first | refine Wo (fun K hK => ?_) | refine Wp ?_ | refine Wq ?_ | refine Wr ?_); (try simp only [go_sem, fN, seval, eT, iR, dT, dF, nL]); (repeat with_reducible refine Ai ?_); (try (refine hK _ ?_; clear hK K)); (try with_reducible refine iC ?_)))
  simp only [go_sem, fN, seval, FinQ, AS.result, resAll, resOne, tupV]
  simp [Lm.kind_mk, Lm.idx_mk, Lm.subs_mk, encL_eq]

set_option maxHeartbeats 2000000
def LT (s : ByteArray) (f : Nat) : Prop := ∀ (ns : List ByteArray) (at_ k b i ni N : Nat) (S : AStore), at_ ≤ s.size → k ≤ 200 → 3 * (s.size - at_) + 2 < f → ns.length + (s.size - at_) + 1 < N → N ≤ 1000000 → 1000 ≤ b → 1000 ≤ i → 1000 ≤ ni →
  S b = some (boxL (tailS s at_) (.row i ns.length) (200 - k)) → S i = some (rowL ns) → S ni = none → LRS 15 (lrT s f ns at_ k) S (ldone S b i ni N ns (tailS s (lrT s f ns at_ k).i) (200 - (lrT s f ns at_ k).k)) (lfail S b i N) b
def LPc (s : ByteArray) (f : Nat) : Prop := ∀ (ns : List ByteArray) (at_ k b i ni N : Nat) (S : AStore), at_ ≤ s.size → k ≤ 200 → 3 * (s.size - at_) + 1 < f → ns.length + (s.size - at_) + 1 < N → N ≤ 1000000 → 1000 ≤ b → 1000 ≤ i → 1000 ≤ ni →
  S b = some (boxL (tailS s at_) (.row i ns.length) (200 - k)) → S i = some (rowL ns) → S ni = none → LRS 31 (lrP s f ns at_ k) S (ldone S b i ni N ns (tailS s (lrP s f ns at_ k).i) (200 - (lrP s f ns at_ k).k)) (lfail S b i N) b
set_option maxRecDepth 100000 in
theorem piece_S {s : ByteArray} (hs : s.size ≤ 100000) {f : Nat} (hT : LT s f) : LPc s (f + 1) := by
  intro ns at_ k b i ni N S hat hk hf hN hN2 hb hi hni sb si sni
  have hbi : ¬ b = i := fun e => by subst e; rw [sb] at si; cases si
  have hbn : ¬ b = ni := fun e => by subst e; rw [sb] at sni; cases sni
  have hin : ¬ i = ni := fun e => by subst e; rw [si] at sni; cases sni
  have hib : ¬ i = b := fun e => hbi e.symm
  have hnb : ¬ ni = b := fun e => hbn e.symm
  have hnj : ¬ ni = i := fun e => hin e.symm
  have hus := tail_size s at_
  obtain ⟨q, hq⟩ : ∃ q, lrP s (f + 1) ns at_ k = q := ⟨_, rfl⟩
  rw [hq]
  refine lrs_of ok_metaprune_lambda_reader_piece (by decide) (clean_ldone hb hi hni) (clean_lfail hb hi) fun hS C Q hC htop hok hpan => ?_
  have n1 : S 1 = none := clean_none hS (by omega)
  have n2 : S 2 = none := clean_none hS (by omega)
  have n3 : S 3 = none := clean_none hS (by omega)
  have n4 : S 4 = none := clean_none hS (by omega)
  have n5 : S 5 = none := clean_none hS (by omega)
  have n900 : S 900 = none := clean_none hS (by omega)
  have n901 : S 901 = none := clean_none hS (by omega)
  unfold ir_metaprune_lambda_reader_piece
  repeat' (first | (with_reducible first | refine W ?_ | refine Wz0 ?_) | ((with_reducible first | refine Wx rfl (fun K hK => ?_) | refine Wp ?_ | refine Wq ?_ | refine Wr ?_); (try simp only [go_sem, fN, seval, eT, iR, AS.startS, hi_ne, lo_ne, hb, hi, hni, n1, n2, n3, n4, n5, n900, n901, hbi, hib, hbn, hnb, hin, hnj, dT, dF, nL]); (repeat with_reducible refine Ai ?_); (try (refine hK _ ?_; clear hK K)); (try with_reducible refine iC ?_)))
  refine ⟨_, _, lnext_at (s := s) (at_ := at_) (nm := .row (up1 i) ns.length) (l := 200 - k) (up1_le b) (up_boxL (by simp only [go_sem, fN, seval, eT, iR, hi_ne, lo_ne, hb, hi, hni, n1, n2, n3, n4, n5, n900, n901, hbi, hib, hbn, hnb, hin, hnj, sb])), ?_⟩
  by_cases h0 : at_ < s.size ∧ byteAt s at_ = 40
  · have ha := ahead_yes h0
    obtain ⟨h0, h0'⟩ := h0
    rw [lrP, if_pos ⟨h0, h0'⟩] at hq
    have hdr := tail_drop (s := s) (i := at_) (n := 1) (by omega)
    have h1i : (1 : Int) ≤ (tailS s at_).size := by omega
    have hc := hT ns (at_ + 1) k (up1 b) (up1 i) (up1 900) N
    by_cases he : (lrT s f ns (at_ + 1) k).e = 0
    case neg =>
      rw [if_neg he] at hq
      subst hq
      repeat' (first | (with_reducible first | refine W ?_ | refine Wz0 ?_) | (first | refine IWP.opsPan 1 ⟨some 21, none, .callS 15 [.t 20], .no⟩ rfl (by kernel_rfl) ?_) | ((with_reducible first | refine Wx rfl (fun K hK => ?_) | refine Wp ?_ | refine Wq ?_ | refine Wr ?_); (try simp only [go_sem, fN, seval, eT, iR, hi_ne, lo_ne, hb, hi, hni, n1, n2, n3, n4, n5, n900, n901, hbi, hib, hbn, hnb, hin, hnj, ha, sb, hdr, h1i, dT, dF, nL]); (repeat with_reducible refine Ai ?_); (try (refine hK _ ?_; clear hK K)); (try with_reducible refine iC ?_)))
      simp only [go_sem, fN, seval, eT, iR, PanAt, List.take_succ_cons, List.take_zero, hi_ne, lo_ne, hb, hi, hni, n1, n2, n3, n4, n5, n900, n901, hbi, hib, hbn, hnb, hin, hnj]
      refine ⟨_, _, (hc _ (by omega) hk (by omega) (by omega) hN2 (up1_le b) (up1_le i) (up1_le 900) (up_boxL (by simp only [go_sem, fN, seval, eT, iR, hi_ne, lo_ne, hb, hi, hni, n1, n2, n3, n4, n5, n900, n901, hbi, hib, hbn, hnb, hin, hnj, sb])) (up_rowL (by simp only [go_sem, fN, seval, eT, iR, hi_ne, lo_ne, hb, hi, hni, n1, n2, n3, n4, n5, n900, n901, hbi, hib, hbn, hnb, hin, hnj, si])) (up_none (by simp only [go_sem, fN, seval, eT, iR, hi_ne, lo_ne, hb, hi, hni, n1, n2, n3, n4, n5, n900, n901, hbi, hib, hbn, hnb, hin, hnj]))).2 he, fun envP => ?_⟩
      repeat' (with_reducible first | refine Wy ?_ | refine Wz ?_ | refine Wv ?_)
      refine pan_to hbi (hpan he) _ (.inr ?_) (.inr ?_) fun j j1 j2 j3 => ?_
      · simp only [go_sem, fN, seval, eT, iR, dn_lfail, lfail, hi_ne, lo_ne, hb, hi, hni, n1, n2, n3, n4, n5, n900, n901, hbi, hib, hbn, hnb, hin, hnj]
      · simp only [go_sem, fN, seval, eT, iR, dn_lfail, lfail, hi_ne, lo_ne, hb, hi, hni, n1, n2, n3, n4, n5, n900, n901, hbi, hib, hbn, hnb, hin, hnj]
      · simp only [go_sem, fN, seval, eT, iR, dn_lfail, lfail, hi_ne, lo_ne, j1, j2, j3]
    case pos =>
    rw [if_pos he] at hq
    have hqo := lrT_ok s f ns (at_ + 1) k (by omega) hk (by omega)
    obtain ⟨o1, o2, o3, o4⟩ := hqo.ok he
    repeat' (first | (with_reducible first | refine W ?_ | refine Wz0 ?_) | ((with_reducible first | refine Wx rfl (fun K hK => ?_) | refine Wp ?_ | refine Wq ?_ | refine Wr ?_); (try simp only [go_sem, fN, seval, eT, iR, hi_ne, lo_ne, hb, hi, hni, n1, n2, n3, n4, n5, n900, n901, hbi, hib, hbn, hnb, hin, hnj, ha, sb, hdr, h1i, dT, dF, nL]); (repeat with_reducible refine Ai ?_); (try (refine hK _ ?_; clear hK K)); (try with_reducible refine iC ?_)))
    refine ⟨_, _, (hc _ (by omega) hk (by omega) (by omega) hN2 (up1_le b) (up1_le i) (up1_le 900) (up_boxL (by simp only [go_sem, fN, seval, eT, iR, hi_ne, lo_ne, hb, hi, hni, n1, n2, n3, n4, n5, n900, n901, hbi, hib, hbn, hnb, hin, hnj, sb])) (up_rowL (by simp only [go_sem, fN, seval, eT, iR, hi_ne, lo_ne, hb, hi, hni, n1, n2, n3, n4, n5, n900, n901, hbi, hib, hbn, hnb, hin, hnj, si])) (up_none (by simp only [go_sem, fN, seval, eT, iR, hi_ne, lo_ne, hb, hi, hni, n1, n2, n3, n4, n5, n900, n901, hbi, hib, hbn, hnb, hin, hnj]))).1 he, ?_⟩
    clear hc hT
    generalize lrT s f ns (at_ + 1) k = p at *
    by_cases hw : wantE s 41 p.i = 0
    case neg =>
      subst hq
      repeat' (first | (with_reducible first | refine W ?_ | refine Wz0 ?_) | (first | refine IWP.opsPan 1 ⟨some 23, none, .callS 29 [.t 22, .c (.one (.st (.int .u8 41)))], .no⟩ rfl (by kernel_rfl) ?_) | ((with_reducible first | refine Wx rfl (fun K hK => ?_) | refine Wp ?_ | refine Wq ?_ | refine Wr ?_); (try simp only [go_sem, fN, seval, eT, iR, dn_ldone, ldone, hi_ne, lo_ne, hb, hi, hni, n1, n2, n3, n4, n5, n900, n901, hbi, hib, hbn, hnb, hin, hnj, ha, sb, hdr, h1i, dT, dF, nL]); (repeat with_reducible refine Ai ?_); (try (refine hK _ ?_; clear hK K)); (try with_reducible refine iC ?_)))
      simp only [go_sem, fN, seval, eT, iR, PanAt, List.take_succ_cons, List.take_zero, hi_ne, lo_ne, hb, hi, hni, n1, n2, n3, n4, n5, n900, n901, hbi, hib, hbn, hnb, hin, hnj]
      refine ⟨_, _, lsign_pan (c := 41) (nm := .row (up1 900) ns.length) (l := 200 - p.k) o1 (up1_le b) (up_boxL (by simp only [go_sem, fN, seval, eT, iR, hi_ne, lo_ne, hb, hi, hni, n1, n2, n3, n4, n5, n900, n901, hbi, hib, hbn, hnb, hin, hnj])) hw, fun envP => ?_⟩
      repeat' (with_reducible first | refine Wy ?_ | refine Wz ?_ | refine Wv ?_)
      refine pan_to hbi (hpan hw) _ (.inr ?_) (.inr ?_) fun j j1 j2 j3 => ?_
      · simp only [go_sem, fN, seval, eT, iR, hi_ne, lo_ne, hb, hi, hni, n1, n2, n3, n4, n5, n900, n901, hbi, hib, hbn, hnb, hin, hnj]
      · simp only [go_sem, fN, seval, eT, iR, hi_ne, lo_ne, hb, hi, hni, n1, n2, n3, n4, n5, n900, n901, hbi, hib, hbn, hnb, hin, hnj]
      · simp only [go_sem, fN, seval, eT, iR, hi_ne, lo_ne, j1, j2, j3]
    case pos =>
      subst hq
      repeat' (first | (with_reducible first | refine W ?_ | refine Wz0 ?_) | ((with_reducible first | refine Wx rfl (fun K hK => ?_) | refine Wp ?_ | refine Wq ?_ | refine Wr ?_); (try simp only [go_sem, fN, seval, eT, iR, dn_ldone, ldone, hi_ne, lo_ne, hb, hi, hni, n1, n2, n3, n4, n5, n900, n901, hbi, hib, hbn, hnb, hin, hnj, ha, sb, hdr, h1i, dT, dF, nL]); (repeat with_reducible refine Ai ?_); (try (refine hK _ ?_; clear hK K)); (try with_reducible refine iC ?_)))
      refine ⟨_, _, lsign_at (c := 41) (nm := .row (up1 900) ns.length) (l := 200 - p.k) o1 (up1_le b) (high_row (up1_le 900)) (up_boxL (by simp only [go_sem, fN, seval, eT, iR, hi_ne, lo_ne, hb, hi, hni, n1, n2, n3, n4, n5, n900, n901, hbi, hib, hbn, hnb, hin, hnj])) hw, ?_⟩
      repeat' (first | (with_reducible first | refine W ?_ | refine Wz0 ?_) | ((with_reducible first | refine Wx rfl (fun K hK => ?_) | refine Wp ?_ | refine Wq ?_ | refine Wr ?_); (try simp only [go_sem, fN, seval, eT, iR, dn_ldone, ldone, hi_ne, lo_ne, hb, hi, hni, n1, n2, n3, n4, n5, n900, n901, hbi, hib, hbn, hnb, hin, hnj, ha, sb, hdr, h1i, dT, dF, nL]); (repeat with_reducible refine Ai ?_); (try (refine hK _ ?_; clear hK K)); (try with_reducible refine iC ?_)))
      refine lend_to (hok hw) _ 900 ns (.row 900 ns.length) rfl ?_ ?_ ?_ (by omega) (.inr ⟨rfl, rfl⟩) (List.take_length) ?_ hbn hni hb (.inr ⟨by decide, ?_, hin, hib⟩) fun j j1 j2 j3 => ?_
      · simp only [go_sem, fN, seval, eT, iR, hi_ne, lo_ne, hb, hi, hni, n1, n2, n3, n4, n5, n900, n901, hbi, hib, hbn, hnb, hin, hnj]
      · simp only [go_sem, fN, seval, eT, iR, hi_ne, lo_ne, hb, hi, hni, n1, n2, n3, n4, n5, n900, n901, hbi, hib, hbn, hnb, hin, hnj]
      · simp only [go_sem, fN, seval, eT, iR, hi_ne, lo_ne, hb, hi, hni, n1, n2, n3, n4, n5, n900, n901, hbi, hib, hbn, hnb, hin, hnj]
      · simp only [go_sem, fN, seval, eT, iR, hi_ne, lo_ne, hb, hi, hni, n1, n2, n3, n4, n5, n900, n901, hbi, hib, hbn, hnb, hin, hnj, sni]
      · simp only [go_sem, fN, seval, eT, iR, hi_ne, lo_ne, hb, hi, hni, n1, n2, n3, n4, n5, n900, n901, hbi, hib, hbn, hnb, hin, hnj]
      · simp only [go_sem, fN, seval, eT, iR, hi_ne, lo_ne, j1, j2, j3]
  have ha := ahead_no (c := 40) (by decide) h0
  rw [lrP, if_neg h0] at hq
  obtain ⟨m1, m2, m3, m4⟩ := nmErr_ok hat
  clear hT
  by_cases he : nmErr s at_ = 0
  case neg =>
    rw [if_neg he] at hq
    subst hq
    repeat' (first | (with_reducible first | refine W ?_ | refine Wz0 ?_) | (first | refine IWP.opsPan 1 ⟨some 26, none, .callS 28 [.t 25], .no⟩ rfl (by kernel_rfl) ?_) | ((with_reducible first | refine Wx rfl (fun K hK => ?_) | refine Wp ?_ | refine Wq ?_ | refine Wr ?_); (try simp only [go_sem, fN, seval, eT, iR, hi_ne, lo_ne, hb, hi, hni, n1, n2, n3, n4, n5, n900, n901, hbi, hib, hbn, hnb, hin, hnj, ha, sb, dT, dF, nL]); (repeat with_reducible refine Ai ?_); (try (refine hK _ ?_; clear hK K)); (try with_reducible refine iC ?_)))
    simp only [go_sem, fN, seval, eT, iR, PanAt, List.take_succ_cons, List.take_zero, hi_ne, lo_ne, hb, hi, hni, n1, n2, n3, n4, n5, n900, n901, hbi, hib, hbn, hnb, hin, hnj]
    refine ⟨_, _, lname_pan (nm := .row (up1 i) ns.length) (l := 200 - k) hs hat (up1_le b) (up_boxL (by simp only [go_sem, fN, seval, eT, iR, hi_ne, lo_ne, hb, hi, hni, n1, n2, n3, n4, n5, n900, n901, hbi, hib, hbn, hnb, hin, hnj, sb])) he, fun envP => ?_⟩
    repeat' (with_reducible first | refine Wy ?_ | refine Wz ?_ | refine Wv ?_)
    refine pan_to hbi (hpan he) _ (.inr ?_) (.inl ⟨ns, ?_, by omega⟩) fun j j1 j2 j3 => ?_
    · simp only [go_sem, fN, seval, eT, iR, hi_ne, lo_ne, hb, hi, hni, n1, n2, n3, n4, n5, n900, n901, hbi, hib, hbn, hnb, hin, hnj]
    · simp only [go_sem, fN, seval, eT, iR, hi_ne, lo_ne, hb, hi, hni, n1, n2, n3, n4, n5, n900, n901, hbi, hib, hbn, hnb, hin, hnj, si]
    · simp only [go_sem, fN, seval, eT, iR, hi_ne, lo_ne, j1, j2, j3]
  case pos =>
  rw [if_pos he] at hq
  obtain ⟨m5, m6⟩ := m4 he
  obtain ⟨z1, z8, zl⟩ := nameOk_cases m6
  obtain ⟨nm, hnm⟩ : ∃ nm, nmAt s at_ = nm := ⟨_, rfl⟩
  repeat' (first | (with_reducible first | refine W ?_ | refine Wz0 ?_) | ((with_reducible first | refine Wx rfl (fun K hK => ?_) | refine Wp ?_ | refine Wq ?_ | refine Wr ?_); (try simp only [go_sem, fN, seval, eT, iR, hi_ne, lo_ne, hb, hi, hni, n1, n2, n3, n4, n5, n900, n901, hbi, hib, hbn, hnb, hin, hnj, ha, sb, dT, dF, nL]); (repeat with_reducible refine Ai ?_); (try (refine hK _ ?_; clear hK K)); (try with_reducible refine iC ?_)))
  refine ⟨_, _, lname_at (nm := .row (up1 i) ns.length) (l := 200 - k) hs hat (up1_le b) (high_row (up1_le i)) (up_boxL (by simp only [go_sem, fN, seval, eT, iR, hi_ne, lo_ne, hb, hi, hni, n1, n2, n3, n4, n5, n900, n901, hbi, hib, hbn, hnb, hin, hnj, sb])) he, ?_⟩
  rw [hnm] at hq m6 z1 z8 zl ⊢
  by_cases hk2 : 200 < k + 1
  · have hqe : q.e = 3 := by
      rw [← hq]
      unfold lrV
      split <;> exact if_pos hk2
    rw [hqe] at hpan
    repeat' (first | (with_reducible first | refine W ?_ | refine Wz0 ?_) | (first | refine IWP.opsPan 1 ⟨some 28, none, .callS 27 [.t 27], .no⟩ rfl (by kernel_rfl) ?_) | ((with_reducible first | refine Wx rfl (fun K hK => ?_) | refine Wp ?_ | refine Wq ?_ | refine Wr ?_); (try simp only [go_sem, fN, seval, eT, iR, hi_ne, lo_ne, hb, hi, hni, n1, n2, n3, n4, n5, n900, n901, hbi, hib, hbn, hnb, hin, hnj, ha, sb, dT, dF, nL]); (repeat with_reducible refine Ai ?_); (try (refine hK _ ?_; clear hK K)); (try with_reducible refine iC ?_)))
    simp only [go_sem, fN, seval, eT, iR, PanAt, List.take_succ_cons, List.take_zero, hi_ne, lo_ne, hb, hi, hni, n1, n2, n3, n4, n5, n900, n901, hbi, hib, hbn, hnb, hin, hnj]
    refine ⟨_, _, ltake_P (nm := .row (up1 i) ns.length) (u := tailS s (lendA s at_)) (l := 200 - k) (up1_le b) (high_row (up1_le i)) (up_boxL (by simp only [go_sem, fN, seval, eT, iR, hi_ne, lo_ne, hb, hi, hni, n1, n2, n3, n4, n5, n900, n901, hbi, hib, hbn, hnb, hin, hnj, sb])) (by omega) (by omega), fun envP => ?_⟩
    repeat' (with_reducible first | refine Wy ?_ | refine Wz ?_ | refine Wv ?_)
    refine pan_to hbi (hpan (by decide)) _ (.inr ?_) (.inl ⟨ns, ?_, by omega⟩) fun j j1 j2 j3 => ?_
    · simp only [go_sem, fN, seval, eT, iR, hi_ne, lo_ne, hb, hi, hni, n1, n2, n3, n4, n5, n900, n901, hbi, hib, hbn, hnb, hin, hnj]
    · simp only [go_sem, fN, seval, eT, iR, hi_ne, lo_ne, hb, hi, hni, n1, n2, n3, n4, n5, n900, n901, hbi, hib, hbn, hnb, hin, hnj, si]
    · simp only [go_sem, fN, seval, eT, iR, hi_ne, lo_ne, j1, j2, j3]
  repeat' (first | (with_reducible first | refine W ?_ | refine Wz0 ?_) | ((with_reducible first | refine Wx rfl (fun K hK => ?_) | refine Wp ?_ | refine Wq ?_ | refine Wr ?_); (try simp only [go_sem, fN, seval, eT, iR, hi_ne, lo_ne, hb, hi, hni, n1, n2, n3, n4, n5, n900, n901, hbi, hib, hbn, hnb, hin, hnj, ha, sb, dT, dF, nL]); (repeat with_reducible refine Ai ?_); (try (refine hK _ ?_; clear hK K)); (try with_reducible refine iC ?_)))
  refine ⟨_, _, ltake_S (nm := .row (up1 i) ns.length) (u := tailS s (lendA s at_)) (l := 200 - k) (up1_le b) (high_row (up1_le i)) (up_boxL (by simp only [go_sem, fN, seval, eT, iR, hi_ne, lo_ne, hb, hi, hni, n1, n2, n3, n4, n5, n900, n901, hbi, hib, hbn, hnb, hin, hnj, sb])) (by omega) (by omega), ?_⟩
  repeat' (first | (with_reducible first | refine W ?_ | refine Wz0 ?_) | ((with_reducible first | refine Wx rfl (fun K hK => ?_) | refine Wp ?_ | refine Wq ?_ | refine Wr ?_); (try simp only [go_sem, fN, seval, eT, iR, hi_ne, lo_ne, hb, hi, hni, n1, n2, n3, n4, n5, n900, n901, hbi, hib, hbn, hnb, hin, hnj, ha, sb, dT, dF, nL]); (repeat with_reducible refine Ai ?_); (try (refine hK _ ?_; clear hK K)); (try with_reducible refine iC ?_)))
  refine ⟨_, _, backward_M _ (up1 900) (up1 i) ns.length (up1_le 900) (up1_le i) (up_none (by simp only [go_sem, fN, seval, eT, iR, hi_ne, lo_ne, hb, hi, hni, n1, n2, n3, n4, n5, n900, n901, hbi, hib, hbn, hnb, hin, hnj])), ?_⟩
  repeat' (first | (with_reducible first | refine W ?_ | refine Wz0 ?_) | ((with_reducible first | refine Wx rfl (fun K hK => ?_) | refine Wp ?_ | refine Wq ?_ | refine Wr ?_); (try simp only [go_sem, fN, seval, eT, iR, hi_ne, lo_ne, hb, hi, hni, n1, n2, n3, n4, n5, n900, n901, hbi, hib, hbn, hnb, hin, hnj, ha, sb, dT, dF, nL]); (repeat with_reducible refine Ai ?_); (try (refine hK _ ?_; clear hK K)); (try with_reducible refine iC ?_)))
  refine pieceLoop2 htop hC ns (by omega) nm b i hb (tailS s (lendA s at_)) (200 - k - 1) 28 _ _ (by simp only [go_sem, fN, seval, eT, iR, hi_ne, lo_ne, hb, hi, hni, n1, n2, n3, n4, n5, n900, n901, hbi, hib, hbn, hnb, hin, hnj]) (by simp only [go_sem, fN, seval, eT, iR, hi_ne, lo_ne, hb, hi, hni, n1, n2, n3, n4, n5, n900, n901, hbi, hib, hbn, hnb, hin, hnj]) (by simp only [go_sem, fN, seval, eT, iR, hi_ne, lo_ne, hb, hi, hni, n1, n2, n3, n4, n5, n900, n901, hbi, hib, hbn, hnb, hin, hnj]) (by simp only [go_sem, fN, seval, eT, iR, hi_ne, lo_ne, hb, hi, hni, n1, n2, n3, n4, n5, n900, n901, hbi, hib, hbn, hnb, hin, hnj]) (e1 := 43) (cs := [.st (.int .i64 0), .st (.int .i64 0), .full []]) (by simp only [go_sem, fN, seval, eT, iR, hi_ne, lo_ne, hb, hi, hni, n1, n2, n3, n4, n5, n900, n901, hbi, hib, hbn, hnb, hin, hnj]) rfl (by simp only [go_sem, fN, seval, eT, iR, hi_ne, lo_ne, hb, hi, hni, n1, n2, n3, n4, n5, n900, n901, hbi, hib, hbn, hnb, hin, hnj]) (by simp only [go_sem, fN, seval, eT, iR, hi_ne, lo_ne, hb, hi, hni, n1, n2, n3, n4, n5, n900, n901, hbi, hib, hbn, hnb, hin, hnj]) (by simp only [go_sem, fN, seval, eT, iR, hi_ne, lo_ne, hb, hi, hni, n1, n2, n3, n4, n5, n900, n901, hbi, hib, hbn, hnb, hin, hnj]) (by simp only [go_sem, fN, seval, eT, iR, hi_ne, lo_ne, hb, hi, hni, n1, n2, n3, n4, n5, n900, n901, hbi, hib, hbn, hnb, hin, hnj, si]) (by simp only [go_sem, fN, seval, eT, iR, hi_ne, lo_ne, hb, hi, hni, n1, n2, n3, n4, n5, n900, n901, hbi, hib, hbn, hnb, hin, hnj]) (by simp only [go_sem, fN, seval, eT, iR, hi_ne, lo_ne, hb, hi, hni, n1, n2, n3, n4, n5, n900, n901, hbi, hib, hbn, hnb, hin, hnj]) (fun hbd => ?_) fun kk hbd => ?_
  · have hqc : q = ⟨.mk 4 (constOf nm) [], lendA s at_, k + 1, if constOf nm < 0 then 15 else 0⟩ := by
      rw [← hq]
      unfold lrV
      rw [hbd]
      simp only [if_neg hk2]
    have n0 : 0 < nm.size := z1
    have z1' : (1 : Int) ≤ nm.size := by omega
    have hz : (rest1 nm).size ≤ 18 := by rw [rest1_size]; omega
    have hat0 := @atoi_no (rest1 nm) hz
    have hatn := fun n => @atoi_a (rest1 nm) n hz
    clear hq
    cases hq2 : Lib.atoi (rest1 nm).data.toList with
    | none =>
      have hc : constOf nm = -1 := constOf_no fun ⟨_, n, h, _⟩ => by rw [hq2] at h; cases h
      rw [hc, if_pos (by decide)] at hqc
      subst hqc
      have hA := hat0 hq2
      unfold rest1 at hA
      by_cases h99 : byteAt nm 0 = 99
      · repeat' (first | (with_reducible first | refine W ?_ | refine Wz0 ?_) | refine Cg _ (hA) ?_ | ((with_reducible first | refine Wx rfl (fun K hK => ?_) | refine Wp ?_ | refine Wq ?_ | refine Wr ?_); (try simp only [go_sem, fN, seval, eT, iR, hi_ne, lo_ne, hb, hi, hni, n1, n2, n3, n4, n5, n900, n901, hbi, hib, hbn, hnb, hin, hnj, z1', n0, byteN_eq, h99, aErr, dT, dF, nL]); (repeat with_reducible refine Ai ?_); (try (refine hK _ ?_; clear hK K)); (try with_reducible refine iC ?_)))
        refine IWP.opsPan 1 _ rfl (by kernel_rfl) ?_
        simp only [go_sem, fN, seval, eT, iR, PanAt, List.take_succ_cons, List.take_zero]
        intro envP
        repeat' (with_reducible first | refine Wy ?_ | refine Wz ?_ | refine Wv ?_)
        refine pan_to hbi (hpan (by show ¬ (15 : Int) = 0; decide)) _ (.inl ⟨46, [.st (.str (tailS s (lendA s at_))), .row i ns.length, .st (.int .i64 (200 - k - 1))], ?_⟩) (.inl ⟨ns, ?_, by omega⟩) fun j j1 j2 j3 => ?_
        · simp only [go_sem, fN, seval, eT, iR, hi_ne, lo_ne, hb, hi, hni, n1, n2, n3, n4, n5, n900, n901, hbi, hib, hbn, hnb, hin, hnj]
        · simp only [go_sem, fN, seval, eT, iR, hi_ne, lo_ne, hb, hi, hni, n1, n2, n3, n4, n5, n900, n901, hbi, hib, hbn, hnb, hin, hnj, si]
        · simp only [go_sem, fN, seval, eT, iR, hi_ne, lo_ne, j1, j2, j3]
      · repeat' (first | (with_reducible first | refine W ?_ | refine Wz0 ?_) | refine Cg _ (hA) ?_ | ((with_reducible first | refine Wx rfl (fun K hK => ?_) | refine Wp ?_ | refine Wq ?_ | refine Wr ?_); (try simp only [go_sem, fN, seval, eT, iR, hi_ne, lo_ne, hb, hi, hni, n1, n2, n3, n4, n5, n900, n901, hbi, hib, hbn, hnb, hin, hnj, z1', n0, byteN_eq, h99, aErr, dT, dF, nL]); (repeat with_reducible refine Ai ?_); (try (refine hK _ ?_; clear hK K)); (try with_reducible refine iC ?_)))
        refine IWP.opsPan 1 _ rfl (by kernel_rfl) ?_
        simp only [go_sem, fN, seval, eT, iR, PanAt, List.take_succ_cons, List.take_zero]
        intro envP
        repeat' (with_reducible first | refine Wy ?_ | refine Wz ?_ | refine Wv ?_)
        refine pan_to hbi (hpan (by show ¬ (15 : Int) = 0; decide)) _ (.inl ⟨46, [.st (.str (tailS s (lendA s at_))), .row i ns.length, .st (.int .i64 (200 - k - 1))], ?_⟩) (.inl ⟨ns, ?_, by omega⟩) fun j j1 j2 j3 => ?_
        · simp only [go_sem, fN, seval, eT, iR, hi_ne, lo_ne, hb, hi, hni, n1, n2, n3, n4, n5, n900, n901, hbi, hib, hbn, hnb, hin, hnj]
        · simp only [go_sem, fN, seval, eT, iR, hi_ne, lo_ne, hb, hi, hni, n1, n2, n3, n4, n5, n900, n901, hbi, hib, hbn, hnb, hin, hnj, si]
        · simp only [go_sem, fN, seval, eT, iR, hi_ne, lo_ne, j1, j2, j3]
    | some n =>
      have hA := hatn n hq2
      have hI := itoaAll_a n
      unfold rest1 at hA
      by_cases h99 : byteAt nm 0 = 99
      case neg =>
        have hc : constOf nm = -1 := constOf_no fun ⟨h, _⟩ => h99 h
        rw [hc, if_pos (by decide)] at hqc
        subst hqc
        repeat' (first | (with_reducible first | refine W ?_ | refine Wz0 ?_) | refine Cg _ (hA) ?_ | ((with_reducible first | refine Wx rfl (fun K hK => ?_) | refine Wp ?_ | refine Wq ?_ | refine Wr ?_); (try simp only [go_sem, fN, seval, eT, iR, hi_ne, lo_ne, hb, hi, hni, n1, n2, n3, n4, n5, n900, n901, hbi, hib, hbn, hnb, hin, hnj, z1', n0, byteN_eq, h99, aNilI, dT, dF, nL]); (repeat with_reducible refine Ai ?_); (try (refine hK _ ?_; clear hK K)); (try with_reducible refine iC ?_)))
        refine IWP.opsPan 1 _ rfl (by kernel_rfl) ?_
        simp only [go_sem, fN, seval, eT, iR, PanAt, List.take_succ_cons, List.take_zero]
        intro envP
        repeat' (with_reducible first | refine Wy ?_ | refine Wz ?_ | refine Wv ?_)
        refine pan_to hbi (hpan (by show ¬ (15 : Int) = 0; decide)) _ (.inl ⟨46, [.st (.str (tailS s (lendA s at_))), .row i ns.length, .st (.int .i64 (200 - k - 1))], ?_⟩) (.inl ⟨ns, ?_, by omega⟩) fun j j1 j2 j3 => ?_
        · simp only [go_sem, fN, seval, eT, iR, hi_ne, lo_ne, hb, hi, hni, n1, n2, n3, n4, n5, n900, n901, hbi, hib, hbn, hnb, hin, hnj]
        · simp only [go_sem, fN, seval, eT, iR, hi_ne, lo_ne, hb, hi, hni, n1, n2, n3, n4, n5, n900, n901, hbi, hib, hbn, hnb, hin, hnj, si]
        · simp only [go_sem, fN, seval, eT, iR, hi_ne, lo_ne, j1, j2, j3]
      case pos =>
      by_cases hit : (⟨(Lib.itoa n).toArray⟩ : ByteArray) = rest1 nm
      case neg =>
        have hc : constOf nm = -1 := constOf_no fun ⟨_, n', h, h', _⟩ => hit (by rw [hq2] at h; cases h; exact h')
        rw [hc, if_pos (by decide)] at hqc
        subst hqc
        unfold rest1 at hit
        repeat' (first | (with_reducible first | refine W ?_ | refine Wz0 ?_) | refine Cg _ (hA) ?_ | refine Cg _ (hI) ?_ | ((with_reducible first | refine Wx rfl (fun K hK => ?_) | refine Wp ?_ | refine Wq ?_ | refine Wr ?_); (try simp only [go_sem, fN, seval, eT, iR, hi_ne, lo_ne, hb, hi, hni, n1, n2, n3, n4, n5, n900, n901, hbi, hib, hbn, hnb, hin, hnj, z1', n0, byteN_eq, h99, aNilI, hit, dT, dF, nL]); (repeat with_reducible refine Ai ?_); (try (refine hK _ ?_; clear hK K)); (try with_reducible refine iC ?_)))
        refine IWP.opsPan 1 _ rfl (by kernel_rfl) ?_
        simp only [go_sem, fN, seval, eT, iR, PanAt, List.take_succ_cons, List.take_zero]
        intro envP
        repeat' (with_reducible first | refine Wy ?_ | refine Wz ?_ | refine Wv ?_)
        refine pan_to hbi (hpan (by show ¬ (15 : Int) = 0; decide)) _ (.inl ⟨46, [.st (.str (tailS s (lendA s at_))), .row i ns.length, .st (.int .i64 (200 - k - 1))], ?_⟩) (.inl ⟨ns, ?_, by omega⟩) fun j j1 j2 j3 => ?_
        · simp only [go_sem, fN, seval, eT, iR, hi_ne, lo_ne, hb, hi, hni, n1, n2, n3, n4, n5, n900, n901, hbi, hib, hbn, hnb, hin, hnj]
        · simp only [go_sem, fN, seval, eT, iR, hi_ne, lo_ne, hb, hi, hni, n1, n2, n3, n4, n5, n900, n901, hbi, hib, hbn, hnb, hin, hnj, si]
        · simp only [go_sem, fN, seval, eT, iR, hi_ne, lo_ne, j1, j2, j3]
      case pos =>
      by_cases hn : n < 40
      case neg =>
        have hc : constOf nm = -1 := constOf_no fun ⟨_, n', h, _, h'⟩ => hn (by rw [hq2] at h; cases h; exact h')
        rw [hc, if_pos (by decide)] at hqc
        subst hqc
        unfold rest1 at hit
        repeat' (first | (with_reducible first | refine W ?_ | refine Wz0 ?_) | refine Cg _ (hA) ?_ | refine Cg _ (hI) ?_ | ((with_reducible first | refine Wx rfl (fun K hK => ?_) | refine Wp ?_ | refine Wq ?_ | refine Wr ?_); (try simp only [go_sem, fN, seval, eT, iR, hi_ne, lo_ne, hb, hi, hni, n1, n2, n3, n4, n5, n900, n901, hbi, hib, hbn, hnb, hin, hnj, z1', n0, byteN_eq, h99, aNilI, hit, hn, dT, dF, nL]); (repeat with_reducible refine Ai ?_); (try (refine hK _ ?_; clear hK K)); (try with_reducible refine iC ?_)))
        refine IWP.opsPan 1 _ rfl (by kernel_rfl) ?_
        simp only [go_sem, fN, seval, eT, iR, PanAt, List.take_succ_cons, List.take_zero]
        intro envP
        repeat' (with_reducible first | refine Wy ?_ | refine Wz ?_ | refine Wv ?_)
        refine pan_to hbi (hpan (by show ¬ (15 : Int) = 0; decide)) _ (.inl ⟨46, [.st (.str (tailS s (lendA s at_))), .row i ns.length, .st (.int .i64 (200 - k - 1))], ?_⟩) (.inl ⟨ns, ?_, by omega⟩) fun j j1 j2 j3 => ?_
        · simp only [go_sem, fN, seval, eT, iR, hi_ne, lo_ne, hb, hi, hni, n1, n2, n3, n4, n5, n900, n901, hbi, hib, hbn, hnb, hin, hnj]
        · simp only [go_sem, fN, seval, eT, iR, hi_ne, lo_ne, hb, hi, hni, n1, n2, n3, n4, n5, n900, n901, hbi, hib, hbn, hnb, hin, hnj, si]
        · simp only [go_sem, fN, seval, eT, iR, hi_ne, lo_ne, j1, j2, j3]
      case pos =>
      obtain ⟨hc, hn0⟩ := constOf_yes z1 zl h99 hit hn
      rw [hc, if_neg (by omega)] at hqc
      subst hqc
      unfold rest1 at hit
      repeat' (first | (with_reducible first | refine W ?_ | refine Wz0 ?_) | refine Cg _ (hA) ?_ | refine Cg _ (hI) ?_ | refine Cg _ (lC_a n) ?_ | ((with_reducible first | refine Wx rfl (fun K hK => ?_) | refine Wp ?_ | refine Wq ?_ | refine Wr ?_); (try simp only [go_sem, fN, seval, eT, iR, hi_ne, lo_ne, hb, hi, hni, n1, n2, n3, n4, n5, n900, n901, hbi, hib, hbn, hnb, hin, hnj, z1', n0, byteN_eq, h99, aNilI, hit, hn, dT, dF, nL]); (repeat with_reducible refine Ai ?_); (try (refine hK _ ?_; clear hK K)); (try with_reducible refine iC ?_)))
      have hl1 : (200 : Int) - ((k + 1 : Nat) : Int) = 200 - k - 1 := by omega
      have hok' : ∀ x y, Ghost C x y → LEnd (.mk 4 n []) (ldone S b i ni N ns (tailS s (lendA s at_)) (200 - k - 1)) y → Q .ret x := by
        rw [← hl1]
        exact hok rfl
      refine lend_to hok' _ i ns (.row i ns.length) rfl ?_ ?_ ?_ (by omega) (.inr ⟨rfl, rfl⟩) (List.take_length) ?_ hbn hni hb (.inl rfl) fun j j1 j2 j3 => ?_
      · simp only [go_sem, fN, seval, eT, iR, hi_ne, lo_ne, hb, hi, hni, n1, n2, n3, n4, n5, n900, n901, hbi, hib, hbn, hnb, hin, hnj]
      · simp only [go_sem, fN, seval, eT, iR, hi_ne, lo_ne, hb, hi, hni, n1, n2, n3, n4, n5, n900, n901, hbi, hib, hbn, hnb, hin, hnj]
      · simp only [go_sem, fN, seval, eT, iR, hi_ne, lo_ne, hb, hi, hni, n1, n2, n3, n4, n5, n900, n901, hbi, hib, hbn, hnb, hin, hnj, si]
      · simp only [go_sem, fN, seval, eT, iR, hi_ne, lo_ne, hb, hi, hni, n1, n2, n3, n4, n5, n900, n901, hbi, hib, hbn, hnb, hin, hnj, sni]
      · simp only [go_sem, fN, seval, eT, iR, hi_ne, lo_ne, j1, j2, j3]
  · have hqv : q = ⟨.v ((ns.length : Int) - 1 - kk), lendA s at_, k + 1, 0⟩ := by
      rw [← hq]
      unfold lrV
      rw [hbd]
      simp only [if_neg hk2]
    clear hq
    subst hqv
    repeat' (first | (with_reducible first | refine W ?_ | refine Wz0 ?_) | ((with_reducible first | refine Wx rfl (fun K hK => ?_) | refine Wp ?_ | refine Wq ?_ | refine Wr ?_); (try simp only [go_sem, fN, seval, eT, iR, hi_ne, lo_ne, hb, hi, hni, n1, n2, n3, n4, n5, n900, n901, hbi, hib, hbn, hnb, hin, hnj, dT, dF, nL]); (repeat with_reducible refine Ai ?_); (try (refine hK _ ?_; clear hK K)); (try with_reducible refine iC ?_)))
    have hl1 : (200 : Int) - ((k + 1 : Nat) : Int) = 200 - k - 1 := by omega
    have hok' : ∀ x y, Ghost C x y → LEnd (.v ((ns.length : Int) - 1 - kk)) (ldone S b i ni N ns (tailS s (lendA s at_)) (200 - k - 1)) y → Q .ret x := by
      rw [← hl1]
      exact hok rfl
    refine lend_to hok' _ i ns (.row i ns.length) rfl ?_ ?_ ?_ (by omega) (.inr ⟨rfl, rfl⟩) (List.take_length) ?_ hbn hni hb (.inl rfl) fun j j1 j2 j3 => ?_
    · simp only [go_sem, fN, seval, eT, iR, hi_ne, lo_ne, hb, hi, hni, n1, n2, n3, n4, n5, n900, n901, hbi, hib, hbn, hnb, hin, hnj]
      rfl
    · simp only [go_sem, fN, seval, eT, iR, hi_ne, lo_ne, hb, hi, hni, n1, n2, n3, n4, n5, n900, n901, hbi, hib, hbn, hnb, hin, hnj]
    · simp only [go_sem, fN, seval, eT, iR, hi_ne, lo_ne, hb, hi, hni, n1, n2, n3, n4, n5, n900, n901, hbi, hib, hbn, hnb, hin, hnj, si]
    · simp only [go_sem, fN, seval, eT, iR, hi_ne, lo_ne, hb, hi, hni, n1, n2, n3, n4, n5, n900, n901, hbi, hib, hbn, hnb, hin, hnj, sni]
    · simp only [go_sem, fN, seval, eT, iR, hi_ne, lo_ne, j1, j2, j3]

set_option maxRecDepth 100000 in
theorem term_lam {s : ByteArray} (hs : s.size ≤ 100000) {f : Nat} (hT : LT s f) {ns : List ByteArray} {at_ k b i ni N : Nat} {S : AStore} (hat : at_ ≤ s.size) (hk : k ≤ 200) (hf : 3 * (s.size - at_) + 2 < f + 1) (hN : ns.length + (s.size - at_) + 1 < N) (hN2 : N ≤ 1000000) (hb : 1000 ≤ b) (hi : 1000 ≤ i) (hni : 1000 ≤ ni)
    (sb : S b = some (boxL (tailS s at_) (.row i ns.length) (200 - k))) (si : S i = some (rowL ns)) (sni : S ni = none) (h0 : at_ < s.size ∧ byteAt s at_ = 92) {q : LRd} (hq : lrT s (f + 1) ns at_ k = q) : LRS 15 q S (ldone S b i ni N ns (tailS s q.i) (200 - q.k)) (lfail S b i N) b := by
  have hbi : ¬ b = i := fun e => by subst e; rw [sb] at si; cases si
  have hbn : ¬ b = ni := fun e => by subst e; rw [sb] at sni; cases sni
  have hin : ¬ i = ni := fun e => by subst e; rw [si] at sni; cases sni
  have hib : ¬ i = b := fun e => hbi e.symm
  have hnb : ¬ ni = b := fun e => hbn e.symm
  have hnj : ¬ ni = i := fun e => hin e.symm
  have hus := tail_size s at_
  refine lrs_of ok_metaprune_lambda_reader_term (by decide) (clean_ldone hb hi hni) (clean_lfail hb hi) fun hS C Q hC htop hok hpan => ?_
  have n1 : S 1 = none := clean_none hS (by omega)
  have n2 : S 2 = none := clean_none hS (by omega)
  have n3 : S 3 = none := clean_none hS (by omega)
  have n4 : S 4 = none := clean_none hS (by omega)
  have n5 : S 5 = none := clean_none hS (by omega)
  have n900 : S 900 = none := clean_none hS (by omega)
  have n901 : S 901 = none := clean_none hS (by omega)
  have ha := ahead_yes h0
  rw [lrT, if_pos h0] at hq
  obtain ⟨h0, h0'⟩ := h0
  have hdr := tail_drop (s := s) (i := at_) (n := 1) (by omega)
  have h1i : (1 : Int) ≤ (tailS s at_).size := by omega
  unfold ir_metaprune_lambda_reader_term
  repeat' (first | (with_reducible first | refine W ?_ | refine Wz0 ?_) | ((with_reducible first | refine Wx rfl (fun K hK => ?_) | refine Wp ?_ | refine Wq ?_ | refine Wr ?_); (try simp only [go_sem, fN, seval, eT, iR, AS.startS, hi_ne, lo_ne, hb, hi, hni, n1, n2, n3, n4, n5, n900, n901, hbi, hib, hbn, hnb, hin, hnj, dT, dF, nL]); (repeat with_reducible refine Ai ?_); (try (refine hK _ ?_; clear hK K)); (try with_reducible refine iC ?_)))
  refine ⟨_, _, lnext_at (s := s) (at_ := at_) (nm := .row (up1 i) ns.length) (l := 200 - k) (up1_le b) (up_boxL (by simp only [go_sem, fN, seval, eT, iR, hi_ne, lo_ne, hb, hi, hni, n1, n2, n3, n4, n5, n900, n901, hbi, hib, hbn, hnb, hin, hnj, sb])), ?_⟩
  by_cases hk2 : 200 < k + 1
  · rw [if_pos hk2] at hq
    subst hq
    repeat' (first | (with_reducible first | refine W ?_ | refine Wz0 ?_) | (first | refine IWP.opsPan 1 ⟨some 10, none, .callS 27 [.t 9], .no⟩ rfl (by kernel_rfl) ?_) | ((with_reducible first | refine Wx rfl (fun K hK => ?_) | refine Wp ?_ | refine Wq ?_ | refine Wr ?_); (try simp only [go_sem, fN, seval, eT, iR, hi_ne, lo_ne, hb, hi, hni, n1, n2, n3, n4, n5, n900, n901, hbi, hib, hbn, hnb, hin, hnj, ha, sb, dT, dF, nL]); (repeat with_reducible refine Ai ?_); (try (refine hK _ ?_; clear hK K)); (try with_reducible refine iC ?_)))
    simp only [go_sem, fN, seval, eT, iR, PanAt, List.take_succ_cons, List.take_zero, hi_ne, lo_ne, hb, hi, hni, n1, n2, n3, n4, n5, n900, n901, hbi, hib, hbn, hnb, hin, hnj]
    refine ⟨_, _, ltake_P (nm := .row (up1 i) ns.length) (u := tailS s at_) (l := 200 - k) (up1_le b) (high_row (up1_le i)) (up_boxL (by simp only [go_sem, fN, seval, eT, iR, hi_ne, lo_ne, hb, hi, hni, n1, n2, n3, n4, n5, n900, n901, hbi, hib, hbn, hnb, hin, hnj, sb])) (by omega) (by omega), fun envP => ?_⟩
    repeat' (with_reducible first | refine Wy ?_ | refine Wz ?_ | refine Wv ?_)
    refine pan_to hbi (hpan (by show ¬ (3 : Int) = 0; decide)) _ (.inr ?_) (.inl ⟨ns, ?_, by omega⟩) fun j j1 j2 j3 => ?_
    · simp only [go_sem, fN, seval, eT, iR, hi_ne, lo_ne, hb, hi, hni, n1, n2, n3, n4, n5, n900, n901, hbi, hib, hbn, hnb, hin, hnj]
    · simp only [go_sem, fN, seval, eT, iR, hi_ne, lo_ne, hb, hi, hni, n1, n2, n3, n4, n5, n900, n901, hbi, hib, hbn, hnb, hin, hnj, si]
    · simp only [go_sem, fN, seval, eT, iR, hi_ne, lo_ne, j1, j2, j3]
  rw [if_neg hk2] at hq
  repeat' (first | (with_reducible first | refine W ?_ | refine Wz0 ?_) | ((with_reducible first | refine Wx rfl (fun K hK => ?_) | refine Wp ?_ | refine Wq ?_ | refine Wr ?_); (try simp only [go_sem, fN, seval, eT, iR, hi_ne, lo_ne, hb, hi, hni, n1, n2, n3, n4, n5, n900, n901, hbi, hib, hbn, hnb, hin, hnj, ha, sb, dT, dF, nL]); (repeat with_reducible refine Ai ?_); (try (refine hK _ ?_; clear hK K)); (try with_reducible refine iC ?_)))
  refine ⟨_, _, ltake_S (nm := .row (up1 i) ns.length) (u := tailS s at_) (l := 200 - k) (up1_le b) (high_row (up1_le i)) (up_boxL (by simp only [go_sem, fN, seval, eT, iR, hi_ne, lo_ne, hb, hi, hni, n1, n2, n3, n4, n5, n900, n901, hbi, hib, hbn, hnb, hin, hnj, sb])) (by omega) (by omega), ?_⟩
  obtain ⟨m1, m2, m3, m4⟩ := nmErr_ok (s := s) (i := at_ + 1) (by omega)
  by_cases he : nmErr s (at_ + 1) = 0
  case neg =>
    rw [if_neg he] at hq
    subst hq
    repeat' (first | (with_reducible first | refine W ?_ | refine Wz0 ?_) | (first | refine IWP.opsPan 1 ⟨some 20, none, .callS 28 [.t 19], .no⟩ rfl (by kernel_rfl) ?_) | ((with_reducible first | refine Wx rfl (fun K hK => ?_) | refine Wp ?_ | refine Wq ?_ | refine Wr ?_); (try simp only [go_sem, fN, seval, eT, iR, hi_ne, lo_ne, hb, hi, hni, n1, n2, n3, n4, n5, n900, n901, hbi, hib, hbn, hnb, hin, hnj, hdr, h1i, sb, dT, dF, nL]); (repeat with_reducible refine Ai ?_); (try (refine hK _ ?_; clear hK K)); (try with_reducible refine iC ?_)))
    simp only [go_sem, fN, seval, eT, iR, PanAt, List.take_succ_cons, List.take_zero, hi_ne, lo_ne, hb, hi, hni, n1, n2, n3, n4, n5, n900, n901, hbi, hib, hbn, hnb, hin, hnj]
    refine ⟨_, _, lname_pan (nm := .row (up1 i) ns.length) (l := 200 - k - 1) hs (by omega) (up1_le b) (up_boxL (by simp only [go_sem, fN, seval, eT, iR, hi_ne, lo_ne, hb, hi, hni, n1, n2, n3, n4, n5, n900, n901, hbi, hib, hbn, hnb, hin, hnj, sb])) he, fun envP => ?_⟩
    repeat' (with_reducible first | refine Wy ?_ | refine Wz ?_ | refine Wv ?_)
    refine pan_to hbi (hpan he) _ (.inr ?_) (.inl ⟨ns, ?_, by omega⟩) fun j j1 j2 j3 => ?_
    · simp only [go_sem, fN, seval, eT, iR, hi_ne, lo_ne, hb, hi, hni, n1, n2, n3, n4, n5, n900, n901, hbi, hib, hbn, hnb, hin, hnj]
    · simp only [go_sem, fN, seval, eT, iR, hi_ne, lo_ne, hb, hi, hni, n1, n2, n3, n4, n5, n900, n901, hbi, hib, hbn, hnb, hin, hnj, si]
    · simp only [go_sem, fN, seval, eT, iR, hi_ne, lo_ne, j1, j2, j3]
  rw [if_pos he] at hq
  obtain ⟨m5, m6⟩ := m4 he
  repeat' (first | (with_reducible first | refine W ?_ | refine Wz0 ?_) | ((with_reducible first | refine Wx rfl (fun K hK => ?_) | refine Wp ?_ | refine Wq ?_ | refine Wr ?_); (try simp only [go_sem, fN, seval, eT, iR, hi_ne, lo_ne, hb, hi, hni, n1, n2, n3, n4, n5, n900, n901, hbi, hib, hbn, hnb, hin, hnj, hdr, h1i, sb, dT, dF, nL]); (repeat with_reducible refine Ai ?_); (try (refine hK _ ?_; clear hK K)); (try with_reducible refine iC ?_)))
  refine ⟨_, _, lname_at (nm := .row (up1 i) ns.length) (l := 200 - k - 1) hs (by omega) (up1_le b) (high_row (up1_le i)) (up_boxL (by simp only [go_sem, fN, seval, eT, iR, hi_ne, lo_ne, hb, hi, hni, n1, n2, n3, n4, n5, n900, n901, hbi, hib, hbn, hnb, hin, hnj, sb])) he, ?_⟩
  obtain ⟨nm, hnm⟩ : ∃ nm, nmAt s (at_ + 1) = nm := ⟨_, rfl⟩
  rw [hnm] at hq m6 ⊢
  generalize lendA s (at_ + 1) = j1 at *
  by_cases hw : wantE s 46 j1 = 0
  case neg =>
    rw [if_neg hw] at hq
    subst hq
    repeat' (first | (with_reducible first | refine W ?_ | refine Wz0 ?_) | (first | refine IWP.opsPan 1 ⟨some 22, none, .callS 29 [.t 21, .c (.one (.st (.int .u8 46)))], .no⟩ rfl (by kernel_rfl) ?_) | ((with_reducible first | refine Wx rfl (fun K hK => ?_) | refine Wp ?_ | refine Wq ?_ | refine Wr ?_); (try simp only [go_sem, fN, seval, eT, iR, hi_ne, lo_ne, hb, hi, hni, n1, n2, n3, n4, n5, n900, n901, hbi, hib, hbn, hnb, hin, hnj, sb, dT, dF, nL]); (repeat with_reducible refine Ai ?_); (try (refine hK _ ?_; clear hK K)); (try with_reducible refine iC ?_)))
    simp only [go_sem, fN, seval, eT, iR, PanAt, List.take_succ_cons, List.take_zero, hi_ne, lo_ne, hb, hi, hni, n1, n2, n3, n4, n5, n900, n901, hbi, hib, hbn, hnb, hin, hnj]
    refine ⟨_, _, lsign_pan (c := 46) (nm := .row (up1 i) ns.length) (l := 200 - k - 1) m3 (up1_le b) (up_boxL (by simp only [go_sem, fN, seval, eT, iR, hi_ne, lo_ne, hb, hi, hni, n1, n2, n3, n4, n5, n900, n901, hbi, hib, hbn, hnb, hin, hnj])) hw, fun envP => ?_⟩
    repeat' (with_reducible first | refine Wy ?_ | refine Wz ?_ | refine Wv ?_)
    refine pan_to hbi (hpan hw) _ (.inr ?_) (.inl ⟨ns, ?_, by omega⟩) fun j j1 j2 j3 => ?_
    · simp only [go_sem, fN, seval, eT, iR, hi_ne, lo_ne, hb, hi, hni, n1, n2, n3, n4, n5, n900, n901, hbi, hib, hbn, hnb, hin, hnj]
    · simp only [go_sem, fN, seval, eT, iR, hi_ne, lo_ne, hb, hi, hni, n1, n2, n3, n4, n5, n900, n901, hbi, hib, hbn, hnb, hin, hnj, si]
    · simp only [go_sem, fN, seval, eT, iR, hi_ne, lo_ne, j1, j2, j3]
  rw [if_pos hw] at hq
  have w1 := ((wantE_ok m3).2 hw).1
  repeat' (first | (with_reducible first | refine W ?_ | refine Wz0 ?_) | ((with_reducible first | refine Wx rfl (fun K hK => ?_) | refine Wp ?_ | refine Wq ?_ | refine Wr ?_); (try simp only [go_sem, fN, seval, eT, iR, hi_ne, lo_ne, hb, hi, hni, n1, n2, n3, n4, n5, n900, n901, hbi, hib, hbn, hnb, hin, hnj, sb, dT, dF, nL]); (repeat with_reducible refine Ai ?_); (try (refine hK _ ?_; clear hK K)); (try with_reducible refine iC ?_)))
  refine ⟨_, _, lsign_at (c := 46) (nm := .row (up1 i) ns.length) (l := 200 - k - 1) m3 (up1_le b) (high_row (up1_le i)) (up_boxL (by simp only [go_sem, fN, seval, eT, iR, hi_ne, lo_ne, hb, hi, hni, n1, n2, n3, n4, n5, n900, n901, hbi, hib, hbn, hnb, hin, hnj])) hw, ?_⟩
  have hlen : (ns ++ [nm]).length = ns.length + 1 := by simp
  have hmap : (ns ++ [nm]).map encS = ns.map encS ++ [[.str nm]] := by simp [encS]
  have hml : (ns.map encS).length = ns.length := by simp
  have hl1 : (200 : Int) - ((k + 1 : Nat) : Int) = 200 - k - 1 := by omega
  have hc := hT (ns ++ [nm]) (j1 + 1) (k + 1) (up1 b) (up1 i) (up1 900) N
  rw [hlen, hl1] at hc
  by_cases ht : (lrT s f (ns ++ [nm]) (j1 + 1) (k + 1)).e = 0
  case neg =>
    have hqe : q.e = (lrT s f (ns ++ [nm]) (j1 + 1) (k + 1)).e := by rw [← hq]
    rw [hqe] at hpan
    clear hq
    repeat' (first | (with_reducible first | refine W ?_ | refine Wz0 ?_) | (first | refine IWP.opsPan 1 ⟨some 34, none, .callS 15 [.t 33], .no⟩ rfl (by kernel_rfl) ?_) | ((with_reducible first | refine Wx rfl (fun K hK => ?_) | refine Wp ?_ | refine Wq ?_ | refine Wr ?_); (try simp only [go_sem, fN, seval, eT, iR, hi_ne, lo_ne, hb, hi, hni, n1, n2, n3, n4, n5, n900, n901, hbi, hib, hbn, hnb, hin, hnj, sb, si, hml, dT, dF, nL]); (repeat with_reducible refine Ai ?_); (try (refine hK _ ?_; clear hK K)); (try with_reducible refine iC ?_)))
    simp only [go_sem, fN, seval, eT, iR, PanAt, List.take_succ_cons, List.take_zero, hi_ne, lo_ne, hb, hi, hni, n1, n2, n3, n4, n5, n900, n901, hbi, hib, hbn, hnb, hin, hnj]
    refine ⟨_, _, (hc _ (by omega) (by omega) (by omega) (by omega) hN2 (up1_le b) (up1_le i) (up1_le 900) (up_boxL (by simp only [go_sem, fN, seval, eT, iR, hi_ne, lo_ne, hb, hi, hni, n1, n2, n3, n4, n5, n900, n901, hbi, hib, hbn, hnb, hin, hnj, sb])) (up_rowL (by simp only [go_sem, fN, seval, eT, iR, hi_ne, lo_ne, hb, hi, hni, n1, n2, n3, n4, n5, n900, n901, hbi, hib, hbn, hnb, hin, hnj, hmap, rowL])) (up_none (by simp only [go_sem, fN, seval, eT, iR, hi_ne, lo_ne, hb, hi, hni, n1, n2, n3, n4, n5, n900, n901, hbi, hib, hbn, hnb, hin, hnj]))).2 ht, fun envP => ?_⟩
    repeat' (with_reducible first | refine Wy ?_ | refine Wz ?_ | refine Wv ?_)
    refine pan_to hbi (hpan ht) _ (.inr ?_) (.inr ?_) fun j j1 j2 j3 => ?_
    · simp only [go_sem, fN, seval, eT, iR, dn_lfail, lfail, hi_ne, lo_ne, hb, hi, hni, n1, n2, n3, n4, n5, n900, n901, hbi, hib, hbn, hnb, hin, hnj]
    · simp only [go_sem, fN, seval, eT, iR, dn_lfail, lfail, hi_ne, lo_ne, hb, hi, hni, n1, n2, n3, n4, n5, n900, n901, hbi, hib, hbn, hnb, hin, hnj]
    · simp only [go_sem, fN, seval, eT, iR, dn_lfail, lfail, hi_ne, lo_ne, j1, j2, j3]
  repeat' (first | (with_reducible first | refine W ?_ | refine Wz0 ?_) | ((with_reducible first | refine Wx rfl (fun K hK => ?_) | refine Wp ?_ | refine Wq ?_ | refine Wr ?_); (try simp only [go_sem, fN, seval, eT, iR, hi_ne, lo_ne, hb, hi, hni, n1, n2, n3, n4, n5, n900, n901, hbi, hib, hbn, hnb, hin, hnj, sb, si, hml, dT, dF, nL]); (repeat with_reducible refine Ai ?_); (try (refine hK _ ?_; clear hK K)); (try with_reducible refine iC ?_)))
  refine ⟨_, _, (hc _ (by omega) (by omega) (by omega) (by omega) hN2 (up1_le b) (up1_le i) (up1_le 900) (up_boxL (by simp only [go_sem, fN, seval, eT, iR, hi_ne, lo_ne, hb, hi, hni, n1, n2, n3, n4, n5, n900, n901, hbi, hib, hbn, hnb, hin, hnj, sb])) (up_rowL (by simp only [go_sem, fN, seval, eT, iR, hi_ne, lo_ne, hb, hi, hni, n1, n2, n3, n4, n5, n900, n901, hbi, hib, hbn, hnb, hin, hnj, hmap, rowL])) (up_none (by simp only [go_sem, fN, seval, eT, iR, hi_ne, lo_ne, hb, hi, hni, n1, n2, n3, n4, n5, n900, n901, hbi, hib, hbn, hnb, hin, hnj]))).1 ht, ?_⟩
  generalize lrT s f (ns ++ [nm]) (j1 + 1) (k + 1) = p at *
  subst hq
  have hl2 : ((ns ++ [nm]).map encS).length = ns.length + 1 := by simp
  have hl3 : (((ns.length + 1 : Nat) : Int) - 1).toNat = ns.length := by omega
  repeat' (first | (with_reducible first | refine W ?_ | refine Wz0 ?_) | refine Cg _ (lL_a p.t) ?_ | ((with_reducible first | refine Wx rfl (fun K hK => ?_) | refine Wp ?_ | refine Wq ?_ | refine Wr ?_); (try simp only [go_sem, fN, seval, eT, iR, dn_ldone, ldone, hi_ne, lo_ne, hb, hi, hni, n1, n2, n3, n4, n5, n900, n901, hbi, hib, hbn, hnb, hin, hnj, hlen, hl2, hl3, dT, dF, nL]); (repeat with_reducible refine Ai ?_); (try (refine hK _ ?_; clear hK K)); (try with_reducible refine iC ?_)))
  refine lend_to (hok ht) _ 900 (ns ++ [nm]) (.part 900 ns.length (ns ++ [nm]).length) rfl ?_ ?_ ?_ (by omega) (.inl rfl) (by simp) ?_ hbn hni hb (.inr ⟨by decide, ?_, hin, hib⟩) fun j j1 j2 j3 => ?_
  · simp only [go_sem, fN, seval, eT, iR, hi_ne, lo_ne, hb, hi, hni, n1, n2, n3, n4, n5, n900, n901, hbi, hib, hbn, hnb, hin, hnj]
  · simp only [go_sem, fN, seval, eT, iR, hi_ne, lo_ne, hb, hi, hni, n1, n2, n3, n4, n5, n900, n901, hbi, hib, hbn, hnb, hin, hnj, hlen]
  · simp only [go_sem, fN, seval, eT, iR, hi_ne, lo_ne, hb, hi, hni, n1, n2, n3, n4, n5, n900, n901, hbi, hib, hbn, hnb, hin, hnj]
  · simp only [go_sem, fN, seval, eT, iR, hi_ne, lo_ne, hb, hi, hni, n1, n2, n3, n4, n5, n900, n901, hbi, hib, hbn, hnb, hin, hnj, sni]
  · simp only [go_sem, fN, seval, eT, iR, hi_ne, lo_ne, hb, hi, hni, n1, n2, n3, n4, n5, n900, n901, hbi, hib, hbn, hnb, hin, hnj]
  · simp only [go_sem, fN, seval, eT, iR, hi_ne, lo_ne, j1, j2, j3]

set_option maxRecDepth 100000 in
theorem term_app {s : ByteArray} (hs : s.size ≤ 100000) {f : Nat} (hP : ∀ g, g ≤ f → LPc s g) {ns : List ByteArray} {at_ k b i ni N : Nat} {S : AStore} (hat : at_ ≤ s.size) (hk : k ≤ 200) (hf : 3 * (s.size - at_) + 2 < f + 1) (hN : ns.length + (s.size - at_) + 1 < N) (hN2 : N ≤ 1000000) (hb : 1000 ≤ b) (hi : 1000 ≤ i) (hni : 1000 ≤ ni)
    (sb : S b = some (boxL (tailS s at_) (.row i ns.length) (200 - k))) (si : S i = some (rowL ns)) (sni : S ni = none) (h0 : ¬ (at_ < s.size ∧ byteAt s at_ = 92)) {q : LRd} (hq : lrT s (f + 1) ns at_ k = q) : LRS 15 q S (ldone S b i ni N ns (tailS s q.i) (200 - q.k)) (lfail S b i N) b := by
  have hbi : ¬ b = i := fun e => by subst e; rw [sb] at si; cases si
  have hbn : ¬ b = ni := fun e => by subst e; rw [sb] at sni; cases sni
  have hin : ¬ i = ni := fun e => by subst e; rw [si] at sni; cases sni
  have hib : ¬ i = b := fun e => hbi e.symm
  have hnb : ¬ ni = b := fun e => hbn e.symm
  have hnj : ¬ ni = i := fun e => hin e.symm
  refine lrs_of ok_metaprune_lambda_reader_term (by decide) (clean_ldone hb hi hni) (clean_lfail hb hi) fun hS C Q hC htop hok hpan => ?_
  have n1 : S 1 = none := clean_none hS (by omega)
  have n2 : S 2 = none := clean_none hS (by omega)
  have n3 : S 3 = none := clean_none hS (by omega)
  have n4 : S 4 = none := clean_none hS (by omega)
  have n5 : S 5 = none := clean_none hS (by omega)
  have n900 : S 900 = none := clean_none hS (by omega)
  have n901 : S 901 = none := clean_none hS (by omega)
  have ha := ahead_no (c := 92) (by decide) h0
  rw [lrT, if_neg h0] at hq
  unfold ir_metaprune_lambda_reader_term
  repeat' (first | (with_reducible first | refine W ?_ | refine Wz0 ?_) | ((with_reducible first | refine Wx rfl (fun K hK => ?_) | refine Wp ?_ | refine Wq ?_ | refine Wr ?_); (try simp only [go_sem, fN, seval, eT, iR, AS.startS, hi_ne, lo_ne, hb, hi, hni, n1, n2, n3, n4, n5, n900, n901, hbi, hib, hbn, hnb, hin, hnj, dT, dF, nL]); (repeat with_reducible refine Ai ?_); (try (refine hK _ ?_; clear hK K)); (try with_reducible refine iC ?_)))
  refine ⟨_, _, lnext_at (s := s) (at_ := at_) (nm := .row (up1 i) ns.length) (l := 200 - k) (up1_le b) (up_boxL (by simp only [go_sem, fN, seval, eT, iR, hi_ne, lo_ne, hb, hi, hni, n1, n2, n3, n4, n5, n900, n901, hbi, hib, hbn, hnb, hin, hnj, sb])), ?_⟩
  have hpo := lrP_ok s f ns at_ k hat hk (by omega)
  have hc := hP f (Nat.le_refl _) ns at_ k (up1 b) (up1 i) (up1 (300 + (lrP s f ns at_ k).k)) N
  by_cases he : (lrP s f ns at_ k).e = 0
  case neg =>
    have hq' : q = lrP s f ns at_ k := by rw [← hq]; exact lrL_bad (by omega) fun h => he h.1
    subst hq'
    repeat' (first | (with_reducible first | refine W ?_ | refine Wz0 ?_) | (first | refine IWP.opsPan 1 ⟨some 52, none, .callS 31 [.t 51], .no⟩ rfl (by kernel_rfl) ?_) | ((with_reducible first | refine Wx rfl (fun K hK => ?_) | refine Wp ?_ | refine Wq ?_ | refine Wr ?_); (try simp only [go_sem, fN, seval, eT, iR, hi_ne, lo_ne, hb, hi, hni, n1, n2, n3, n4, n5, n900, n901, hbi, hib, hbn, hnb, hin, hnj, ha, sb, dT, dF, nL]); (repeat with_reducible refine Ai ?_); (try (refine hK _ ?_; clear hK K)); (try with_reducible refine iC ?_)))
    simp only [go_sem, fN, seval, eT, iR, PanAt, List.take_succ_cons, List.take_zero, hi_ne, lo_ne, hb, hi, hni, n1, n2, n3, n4, n5, n900, n901, hbi, hib, hbn, hnb, hin, hnj]
    have hm := hpo.most
    have hc2 := hP f (Nat.le_refl _) ns at_ k (up1 b) (up1 i) (up1 900) N
    refine ⟨_, _, (hc2 _ hat hk (by omega) (by omega) hN2 (up1_le b) (up1_le i) (up1_le _) (up_boxL (by simp only [go_sem, fN, seval, eT, iR, hi_ne, lo_ne, hb, hi, hni, n1, n2, n3, n4, n5, n900, n901, hbi, hib, hbn, hnb, hin, hnj, sb])) (up_rowL (by simp only [go_sem, fN, seval, eT, iR, hi_ne, lo_ne, hb, hi, hni, n1, n2, n3, n4, n5, n900, n901, hbi, hib, hbn, hnb, hin, hnj, si])) (up_none (by simp only [go_sem, fN, seval, eT, iR, hi_ne, lo_ne, hb, hi, hni, n1, n2, n3, n4, n5, n900, n901, hbi, hib, hbn, hnb, hin, hnj]))).2 he, fun envP => ?_⟩
    repeat' (with_reducible first | refine Wy ?_ | refine Wz ?_ | refine Wv ?_)
    refine pan_to hbi (hpan he) _ (.inr ?_) (.inr ?_) fun j j1 j2 j3 => ?_
    · simp only [go_sem, fN, seval, eT, iR, dn_lfail, lfail, hi_ne, lo_ne, hb, hi, hni, n1, n2, n3, n4, n5, n900, n901, hbi, hib, hbn, hnb, hin, hnj]
    · simp only [go_sem, fN, seval, eT, iR, dn_lfail, lfail, hi_ne, lo_ne, hb, hi, hni, n1, n2, n3, n4, n5, n900, n901, hbi, hib, hbn, hnb, hin, hnj]
    · simp only [go_sem, fN, seval, eT, iR, dn_lfail, lfail, hi_ne, lo_ne, j1, j2, j3]
  obtain ⟨o1, o2, o3, o4⟩ := hpo.ok he
  obtain ⟨p, hp⟩ : ∃ p, lrP s f ns at_ k = p := ⟨_, rfl⟩
  rw [hp] at hc hq he o1 o2 o3 o4
  have hlow : ∀ j, j ≤ 201 → S (300 + j) = none := fun j hj => clean_none hS (by omega)
  have l1 : 300 + p.k < 1000 := by omega
  have l2 : ¬ 300 + p.k = 2 := by omega
  have l5 : ¬ 300 + p.k = 5 := by omega
  have k2 : ¬ 2 = 300 + p.k := by omega
  have k5 : ¬ 5 = 300 + p.k := by omega
  have hpn : S (300 + p.k) = none := hlow p.k (by omega)
  repeat' (first | (with_reducible first | refine W ?_ | refine Wz0 ?_) | ((with_reducible first | refine Wx rfl (fun K hK => ?_) | refine Wp ?_ | refine Wq ?_ | refine Wr ?_); (try simp only [go_sem, fN, seval, eT, iR, hi_ne, lo_ne, hb, hi, hni, n1, n2, n3, n4, n5, n900, n901, hbi, hib, hbn, hnb, hin, hnj, ha, sb, dT, dF, nL]); (repeat with_reducible refine Ai ?_); (try (refine hK _ ?_; clear hK K)); (try with_reducible refine iC ?_)))
  refine ⟨_, _, (hc _ hat hk (by omega) (by omega) hN2 (up1_le b) (up1_le i) (up1_le _) (up_boxL (by simp only [go_sem, fN, seval, eT, iR, hi_ne, lo_ne, hb, hi, hni, n1, n2, n3, n4, n5, n900, n901, hbi, hib, hbn, hnb, hin, hnj, sb])) (up_rowL (by simp only [go_sem, fN, seval, eT, iR, hi_ne, lo_ne, hb, hi, hni, n1, n2, n3, n4, n5, n900, n901, hbi, hib, hbn, hnb, hin, hnj, si])) (up_none (by simp only [go_sem, fN, seval, eT, iR, hi_ne, lo_ne, hb, hi, hni, n1, n2, n3, n4, n5, n900, n901, hbi, hib, hbn, hnb, hin, hnj, l1, l2, l5, hpn]))).1 he, ?_⟩
  repeat' (first | (with_reducible first | refine W ?_ | refine Wz0 ?_) | ((with_reducible first | refine Wx rfl (fun K hK => ?_) | refine Wp ?_ | refine Wq ?_ | refine Wr ?_); (try simp only [go_sem, fN, seval, eT, iR, dn_ldone, ldone, hi_ne, lo_ne, hb, hi, hni, n1, n2, n3, n4, n5, n900, n901, hbi, hib, hbn, hnb, hin, hnj, l1, l2, l5, k2, k5, sb, dT, dF, nL]); (repeat with_reducible refine Ai ?_); (try (refine hK _ ?_; clear hK K)); (try with_reducible refine iC ?_)))
  refine IWP.loop (fun m x => ∃ (p : LRd) (g : Nat), lrL s g ns p = q ∧ m = s.size - p.i ∧ p.e = 0 ∧ p.i ≤ s.size ∧ p.k ≤ 200 ∧ at_ < p.i ∧ 3 * (s.size - p.i) < g ∧ g ≤ f ∧ x.env 0 = .one (.ptr b 1 0 0) ∧ x.env 2 = .one (.ptr 2 1 0 0) ∧ x.env 5 = .one (.ptr 5 1 0 0) ∧ x.S 2 = some (.box 26 [.st (.int .i64 0), .st (.int .i64 0), .full []]) ∧ x.S 5 = some (.box 26 [.st (.int .i64 p.t.kind), .st (.int .i64 p.t.idx), .st (.list (p.t.subs.map encL))]) ∧
    x.S b = some (boxL (tailS s p.i) (.row (300 + p.k) ns.length) (200 - p.k)) ∧ x.S (300 + p.k) = some (rowL ns) ∧ x.S i = some (.dead N 1) ∧ (∀ j, p.k < j → j ≤ 201 → x.S (300 + j) = none) ∧ ∀ j, 1000 ≤ j → j ≠ b → j ≠ i → x.S j = S j) (s.size - p.i) ⟨p, f, hq, rfl, he, o1, o4, o2, by omega, Nat.le_refl _, ?_⟩ ?_
  · simp only [go_sem, fN, seval, eT, iR, hi_ne, lo_ne, hb, hi, hni, n1, n2, n3, n4, n5, n900, n901, hbi, hib, hbn, hnb, hin, hnj, l1, l2, l5, k2, k5, AS.startS]
    refine ⟨fun j j1 j2 => ?_, fun j j1 j2 j3 => ?_⟩
    · have h1 : ¬ 300 + j = 5 := by omega
      have h2 : ¬ 300 + j = 2 := by omega
      have h3 : ¬ 300 + j = 300 + p.k := by omega
      have h4 : ¬ 300 + j = b := by omega
      have h5 : ¬ 300 + j = i := by omega
      have h6 := hlow j j2
      simp only [go_sem, fN, seval, eT, iR, h1, h2, h3, h4, h5, h6]
    · have h3 : ¬ j = 300 + p.k := by omega
      simp only [go_sem, fN, seval, eT, iR, hi_ne, lo_ne, j1, j2, j3, h3]
  clear hc hp hlow l1 l2 l5 k2 k5 hpn he o1 o2 o3 o4 hq hpo
  clear p
  rintro m ⟨env, S1⟩ ⟨p, g, hq, rfl, he, o1, o4, o2, hg, hgf, v0, v2, v5, t2, t5, tb, tk, ti, tn, hrest⟩
  simp only at v0 v2 v5 t2 t5 tb tk ti tn hrest
  have l1 : 300 + p.k < 1000 := by omega
  have l2 : ¬ 300 + p.k = 2 := by omega
  have l5 : ¬ 300 + p.k = 5 := by omega
  have k2 : ¬ 2 = 300 + p.k := by omega
  have k5 : ¬ 5 = 300 + p.k := by omega
  have kb : ¬ b = 300 + p.k := by omega
  have ki : ¬ i = 300 + p.k := by omega
  have lb : ¬ 300 + p.k = b := by omega
  have li : ¬ 300 + p.k = i := by omega
  obtain ⟨g, rfl⟩ : ∃ g', g = g' + 1 := ⟨g - 1, by omega⟩
  have tni : S1 ni = none := by rw [hrest ni hni (by omega) (by omega)]; exact sni
  repeat' (first | (with_reducible first | refine W ?_ | refine Wz0 ?_) | ((with_reducible first | refine Wx rfl (fun K hK => ?_) | refine Wp ?_ | refine Wq ?_ | refine Wr ?_); (try simp only [go_sem, fN, seval, eT, iR, v0, hi_ne, lo_ne, hb, hi, hni, n1, n2, n3, n4, n5, n900, n901, hbi, hib, hbn, hnb, hin, hnj, dT, dF, nL]); (repeat with_reducible refine Ai ?_); (try (refine hK _ ?_; clear hK K)); (try with_reducible refine iC ?_)))
  refine ⟨_, _, lnext_at (s := s) (at_ := p.i) (nm := .row (up1 (300 + p.k)) ns.length) (l := 200 - p.k) (up1_le b) (up_boxL (by simp only [go_sem, fN, seval, eT, iR, hi_ne, lo_ne, hb, hi, hni, n1, n2, n3, n4, n5, n900, n901, hbi, hib, hbn, hnb, hin, hnj, tb])), ?_⟩
  by_cases h1 : p.i < s.size ∧ byteAt s p.i = 32
  case neg =>
    have ha1 := ahead_no (c := 32) (by decide) h1
    have hq' : p = q := by rw [← hq]; exact (lrL_bad (Nat.succ_pos _) fun h => h1 h.2).symm
    subst hq'
    repeat' (first | (with_reducible first | refine W ?_ | refine Wz0 ?_) | ((with_reducible first | refine Wx rfl (fun K hK => ?_) | refine Wp ?_ | refine Wq ?_ | refine Wr ?_); (try simp only [go_sem, fN, seval, eT, iR, v0, v2, v5, hi_ne, lo_ne, hb, hi, hni, n1, n2, n3, n4, n5, n900, n901, hbi, hib, hbn, hnb, hin, hnj, ha1, tb, t2, t5, dT, dF, nL]); (repeat with_reducible refine Ai ?_); (try (refine hK _ ?_; clear hK K)); (try with_reducible refine iC ?_)))
    refine lend_to (hok he) _ (300 + p.k) ns (.row (300 + p.k) ns.length) ?_ ?_ ?_ ?_ (by omega) (.inr ⟨rfl, rfl⟩) (List.take_length) ?_ hbn hni hb (.inr ⟨l1, ?_, hin, hib⟩) fun j j1 j2 j3 => ?_
    · simp only [go_sem, fN, seval, eT, iR, v2]
    · simp only [go_sem, fN, seval, eT, iR, hi_ne, lo_ne, hb, hi, hni, n1, n2, n3, n4, n5, n900, n901, hbi, hib, hbn, hnb, hin, hnj]
    · simp only [go_sem, fN, seval, eT, iR, hi_ne, lo_ne, hb, hi, hni, n1, n2, n3, n4, n5, n900, n901, hbi, hib, hbn, hnb, hin, hnj, tb]
    · simp only [go_sem, fN, seval, eT, iR, l2, tk]
    · simp only [go_sem, fN, seval, eT, iR, hi_ne, lo_ne, hb, hi, hni, n1, n2, n3, n4, n5, n900, n901, hbi, hib, hbn, hnb, hin, hnj, tni]
    · simp only [go_sem, fN, seval, eT, iR, hi_ne, lo_ne, hb, hi, hni, n1, n2, n3, n4, n5, n900, n901, hbi, hib, hbn, hnb, hin, hnj, ti]
    · have j4 : ¬ j = 2 := by omega
      simp only [go_sem, fN, seval, eT, iR, j4]
      exact hrest j j1 j2 j3
  case pos =>
  have ha1 := ahead_yes h1
  have hus1 := tail_size s p.i
  have hdr := tail_drop (s := s) (i := p.i) (n := 1) (by omega)
  have h1i : (1 : Int) ≤ (tailS s p.i).size := by omega
  rw [lrL, if_pos ⟨he, h1⟩] at hq
  by_cases hk2 : 200 < p.k + 1
  · rw [if_pos hk2] at hq
    subst hq
    repeat' (first | (with_reducible first | refine W ?_ | refine Wz0 ?_) | (first | refine IWP.opsPan 1 ⟨some 65, none, .callS 27 [.t 64], .no⟩ rfl (by kernel_rfl) ?_) | ((with_reducible first | refine Wx rfl (fun K hK => ?_) | refine Wp ?_ | refine Wq ?_ | refine Wr ?_); (try simp only [go_sem, fN, seval, eT, iR, v0, v2, v5, hi_ne, lo_ne, hb, hi, hni, n1, n2, n3, n4, n5, n900, n901, hbi, hib, hbn, hnb, hin, hnj, ha1, hdr, h1i, tb, t2, t5, dT, dF, nL]); (repeat with_reducible refine Ai ?_); (try (refine hK _ ?_; clear hK K)); (try with_reducible refine iC ?_)))
    simp only [go_sem, fN, seval, eT, iR, PanAt, List.take_succ_cons, List.take_zero, v0, hi_ne, lo_ne, hb, hi, hni, n1, n2, n3, n4, n5, n900, n901, hbi, hib, hbn, hnb, hin, hnj]
    refine ⟨_, _, ltake_P (nm := .row (up1 (300 + p.k)) ns.length) (u := tailS s (p.i + 1)) (l := 200 - p.k) (up1_le b) (high_row (up1_le _)) (up_boxL (by simp only [go_sem, fN, seval, eT, iR, hi_ne, lo_ne, hb, hi, hni, n1, n2, n3, n4, n5, n900, n901, hbi, hib, hbn, hnb, hin, hnj, tb])) (by omega) (by omega), fun envP => ?_⟩
    repeat' (with_reducible first | refine Wy ?_ | refine Wz ?_ | refine Wv ?_)
    refine pan_to hbi (hpan (by show ¬ (3 : Int) = 0; decide)) _ (.inr ?_) (.inr ?_) fun j j1 j2 j3 => ?_
    · simp only [go_sem, fN, seval, eT, iR, hi_ne, lo_ne, hb, hi, hni, n1, n2, n3, n4, n5, n900, n901, hbi, hib, hbn, hnb, hin, hnj]
    · simp only [go_sem, fN, seval, eT, iR, hi_ne, lo_ne, hb, hi, hni, n1, n2, n3, n4, n5, n900, n901, hbi, hib, hbn, hnb, hin, hnj, ti]
    · simp only [go_sem, fN, seval, eT, iR, hi_ne, lo_ne, hb, hi, hni, n1, n2, n3, n4, n5, n900, n901, hbi, hib, hbn, hnb, hin, hnj, j2]
      exact hrest j j1 j2 j3
  rw [if_neg hk2] at hq
  repeat' (first | (with_reducible first | refine W ?_ | refine Wz0 ?_) | ((with_reducible first | refine Wx rfl (fun K hK => ?_) | refine Wp ?_ | refine Wq ?_ | refine Wr ?_); (try simp only [go_sem, fN, seval, eT, iR, v0, v2, v5, hi_ne, lo_ne, hb, hi, hni, n1, n2, n3, n4, n5, n900, n901, hbi, hib, hbn, hnb, hin, hnj, ha1, hdr, h1i, tb, t2, t5, dT, dF, nL]); (repeat with_reducible refine Ai ?_); (try (refine hK _ ?_; clear hK K)); (try with_reducible refine iC ?_)))
  refine ⟨_, _, ltake_S (nm := .row (up1 (300 + p.k)) ns.length) (u := tailS s (p.i + 1)) (l := 200 - p.k) (up1_le b) (high_row (up1_le _)) (up_boxL (by simp only [go_sem, fN, seval, eT, iR, hi_ne, lo_ne, hb, hi, hni, n1, n2, n3, n4, n5, n900, n901, hbi, hib, hbn, hnb, hin, hnj, tb])) (by omega) (by omega), ?_⟩
  have hc := hP g (by omega) ns (p.i + 1) (p.k + 1) (up1 b) (up1 (300 + p.k))
  have hpo := lrP_ok s g ns (p.i + 1) (p.k + 1) (by omega) (by omega) (by omega)
  have hl1 : (200 : Int) - ((p.k + 1 : Nat) : Int) = 200 - p.k - 1 := by omega
  rw [hl1] at hc
  by_cases hr : (lrP s g ns (p.i + 1) (p.k + 1)).e = 0
  case neg =>
    have hq' := (lrL_bad (s := s) (g := g) (ns := ns) (q := ⟨.a p.t (lrP s g ns (p.i + 1) (p.k + 1)).t, (lrP s g ns (p.i + 1) (p.k + 1)).i, (lrP s g ns (p.i + 1) (p.k + 1)).k, (lrP s g ns (p.i + 1) (p.k + 1)).e⟩) (by omega) fun h => hr h.1).symm.trans hq
    subst hq'
    repeat' (first | (with_reducible first | refine W ?_ | refine Wz0 ?_) | (first | refine IWP.opsPan 2 ⟨some 68, none, .callS 31 [.t 67], .keeps [5]⟩ rfl (by kernel_rfl) ?_) | ((with_reducible first | refine Wx rfl (fun K hK => ?_) | refine Wp ?_ | refine Wq ?_ | refine Wr ?_); (try simp only [go_sem, fN, seval, eT, iR, v0, v2, v5, hi_ne, lo_ne, hb, hi, hni, n1, n2, n3, n4, n5, n900, n901, hbi, hib, hbn, hnb, hin, hnj, tb, t2, t5, dT, dF, nL]); (repeat with_reducible refine Ai ?_); (try (refine hK _ ?_; clear hK K)); (try with_reducible refine iC ?_)))
    simp only [go_sem, fN, seval, eT, iR, PanAt, List.take_succ_cons, List.take_zero, v0, v5, t5, hi_ne, lo_ne, hb, hi, hni, n1, n2, n3, n4, n5, n900, n901, hbi, hib, hbn, hnb, hin, hnj]
    have tn' := tn (p.k + 1) (by omega) (by omega)
    have kb' : ¬ 300 + (p.k + 1) = b := by omega
    refine ⟨_, _, (hc (up1 (300 + (p.k + 1))) N _ (by omega) (by omega) (by omega) (by omega) hN2 (up1_le b) (up1_le _) (up1_le _) (up_boxL (by simp only [go_sem, fN, seval, eT, iR, hi_ne, lo_ne, hb, hi, hni, n1, n2, n3, n4, n5, n900, n901, hbi, hib, hbn, hnb, hin, hnj, tb])) (up_rowL (by simp only [go_sem, fN, seval, eT, iR, lb, tk])) (up_none (by simp only [go_sem, fN, seval, eT, iR, kb', tn']))).2 hr, fun envP => ?_⟩
    repeat' (with_reducible first | refine Wy ?_ | refine Wz ?_ | refine Wv ?_)
    refine pan_to hbi (hpan hr) _ (.inr ?_) (.inr ?_) fun j j1 j2 j3 => ?_
    · simp only [go_sem, fN, seval, eT, iR, dn_lfail, lfail, hi_ne, lo_ne, hb, hi, hni, n1, n2, n3, n4, n5, n900, n901, hbi, hib, hbn, hnb, hin, hnj]
    · simp only [go_sem, fN, seval, eT, iR, dn_lfail, lfail, hi_ne, lo_ne, hb, hi, hni, n1, n2, n3, n4, n5, n900, n901, hbi, hib, hbn, hnb, hin, hnj, li, ki, ti]
    · have j4 : ¬ j = 300 + p.k := by omega
      simp only [go_sem, fN, seval, eT, iR, dn_lfail, lfail, hi_ne, lo_ne, j1, j2, j3, j4]
      exact hrest j j1 j2 j3
  obtain ⟨p1, hp1⟩ : ∃ p1, lrP s g ns (p.i + 1) (p.k + 1) = p1 := ⟨_, rfl⟩
  have hc := hc (up1 (300 + p1.k)) N
  rw [hp1] at hq hc hpo hr
  obtain ⟨r1, r2, r3, r4⟩ := hpo.ok hr
  have l1' : 300 + p1.k < 1000 := by omega
  have l2' : ¬ 300 + p1.k = 2 := by omega
  have l5' : ¬ 300 + p1.k = 5 := by omega
  have k2' : ¬ 2 = 300 + p1.k := by omega
  have k5' : ¬ 5 = 300 + p1.k := by omega
  have lb' : ¬ 300 + p1.k = b := by omega
  have li' : ¬ 300 + p1.k = i := by omega
  have kb' : ¬ b = 300 + p1.k := by omega
  have ki' : ¬ i = 300 + p1.k := by omega
  have ll' : ¬ 300 + p1.k = 300 + p.k := by omega
  have tn' := tn p1.k (by omega) (by omega)
  repeat' (first | (with_reducible first | refine W ?_ | refine Wz0 ?_) | ((with_reducible first | refine Wx rfl (fun K hK => ?_) | refine Wp ?_ | refine Wq ?_ | refine Wr ?_); (try simp only [go_sem, fN, seval, eT, iR, v0, v2, v5, hi_ne, lo_ne, hb, hi, hni, n1, n2, n3, n4, n5, n900, n901, hbi, hib, hbn, hnb, hin, hnj, tb, t2, t5, dT, dF, nL]); (repeat with_reducible refine Ai ?_); (try (refine hK _ ?_; clear hK K)); (try with_reducible refine iC ?_)))
  refine ⟨_, _, (hc _ (by omega) (by omega) (by omega) (by omega) hN2 (up1_le b) (up1_le _) (up1_le _) (up_boxL (by simp only [go_sem, fN, seval, eT, iR, hi_ne, lo_ne, hb, hi, hni, n1, n2, n3, n4, n5, n900, n901, hbi, hib, hbn, hnb, hin, hnj, tb])) (up_rowL (by simp only [go_sem, fN, seval, eT, iR, lb, tk])) (up_none (by simp only [go_sem, fN, seval, eT, iR, lb', tn']))).1 hr, ?_⟩
  repeat' (first | (with_reducible first | refine W ?_ | refine Wz0 ?_) | refine Cg _ (lA_a p.t p1.t) ?_ | ((with_reducible first | refine Wx rfl (fun K hK => ?_) | refine Wp ?_ | refine Wq ?_ | refine Wr ?_); (try simp only [go_sem, fN, seval, eT, iR, dn_ldone, ldone, v0, v2, v5, hi_ne, lo_ne, hb, hi, hni, n1, n2, n3, n4, n5, n900, n901, hbi, hib, hbn, hnb, hin, hnj, k5, k5', l5, l5', tb, t2, t5, List.forall_mem_singleton, dT, dF, nL]); (repeat with_reducible refine Ai ?_); (try (refine hK _ ?_; clear hK K)); (try with_reducible refine iC ?_)))
  refine then_normal ⟨s.size - p1.i, by omega, ⟨.a p.t p1.t, p1.i, p1.k, p1.e⟩, g, hq, rfl, hr, r1, r4, by show at_ < p1.i; omega, by show 3 * (s.size - p1.i) < g; omega, by omega, ?_⟩
  dsimp only
  simp only [go_sem, fN, seval, eT, iR, v0, v2, v5, hi_ne, lo_ne, hb, hi, hni, n1, n2, n3, n4, n5, n900, n901, hbi, hib, hbn, hnb, hin, hnj, k2, k2', k5, k5', l2, l2', l5, l5', lb, lb', li, li', kb', ki', t2, ll', ki, ti]
  refine ⟨fun j j1 j2 => ?_, fun j j1 j2 j3 => ?_⟩
  · have h1 : ¬ 300 + j = 5 := by omega
    have h3 : ¬ 300 + j = 300 + p.k := by omega
    have h3' : ¬ 300 + j = 300 + p1.k := by omega
    have h4 : ¬ 300 + j = b := by omega
    have h6 := tn j (by omega) j2
    simp only [go_sem, fN, seval, eT, iR, h1, h3, h3', h4, h6]
  · have h3 : ¬ j = 300 + p.k := by omega
    have h3' : ¬ j = 300 + p1.k := by omega
    simp only [go_sem, fN, seval, eT, iR, hi_ne, lo_ne, j1, j2, j3, h3, h3']
    exact hrest j j1 j2 j3
theorem lread_S {s : ByteArray} (hs : s.size ≤ 100000) : ∀ f, LT s f ∧ LPc s f := by
  intro f
  induction f using Nat.strongRecOn with
  | _ f ih =>
  cases f with
  | zero => exact ⟨fun _ _ _ _ _ _ _ _ _ _ h => absurd h (Nat.not_lt_zero _), fun _ _ _ _ _ _ _ _ _ _ h => absurd h (Nat.not_lt_zero _)⟩
  | succ f =>
    have hT := (ih f (Nat.lt_succ_self f)).1
    refine ⟨fun ns at_ k b i ni N S hat hk hf hN hN2 hb hi hni sb si sni => ?_, piece_S hs hT⟩
    by_cases h0 : at_ < s.size ∧ byteAt s at_ = 92
    · exact term_lam hs hT hat hk hf hN hN2 hb hi hni sb si sni h0 rfl
    · exact term_app hs (fun g hg => (ih g (by omega)).2) hat hk hf hN hN2 hb hi hni sb si sni h0 rfl

end Go.Proofs.YtaedkffopponhaaDoor
